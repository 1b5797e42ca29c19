/- The tight form is its own; an array that is right stands for one forest alone. -/
import Derived.Test.YtpkjiplgpgbheaaGreatDoorP14EpFo3
set_option linter.unusedVariables false
set_option linter.unusedSimpArgs false
set_option linter.unusedSectionVars false
namespace Go.Proofs.YtpkjiplgpgbheaaGreatDoor.Sp
set_option linter.unusedVariables false
open Go.RowKit Go.Proofs.YtpkjiplgpgbheaaGreatDoor.Ba  Go.Proofs.YtpkjiplgpgbheaaGreatDoor.Dm Go.Proofs.YtpkjiplgpgbheaaGreatDoor.Ba Go.Lib
open Fo
theorem whole_ofB (x : Int) (h : I x) : wholeB (ofB x) = (x, true) := by
  obtain ⟨m, e, h1, h2, h3, h4, h5⟩ := of_val x h.1 h.2
  have e1 : ofB x = ⟨m, e⟩ := by unfold ofB; rw [h1]
  rw [e1]
  unfold wholeB whole
  rw [← h3, if_pos ⟨h2, h4, h5, h.1, h.2⟩]
theorem wholeL_ofB : ∀ (l acc : List Int), (∀ x ∈ l, I x) → wholeL (l.map ofB) acc = (acc ++ l, true)
  | [], acc, _ => by simp [wholeL]
  | x :: l, acc, h => by
    rw [List.map_cons, wholeL, whole_ofB x (h x (by simp)), if_pos rfl, wholeL_ofB l _ (fun y hy => h y (by simp [hy]))]
    simp
/-- A tight row of numbers is told by its numbers. -/
theorem numbersL_own {s : List Int} {l : List Dec} (hd : ∀ d ∈ l, wfD d) (h : (numbersL s l).2 = true) : numbersL s (numsOf (numbersL s l).1) = numbersL s l := by
  have hI := wholeL_I l [] (by simp)
  have hall := h
  unfold numbersL at hall
  by_cases a1 : (cnt s).2 = false
  · simp [a1] at hall
  rw [if_neg a1] at hall
  by_cases a2 : (cnt s).1 ≠ l.length
  · simp [a2] at hall
  rw [if_neg a2] at hall
  by_cases a3 : (l.any fun d => !rightB d) = true
  · rw [if_pos a3] at hall; simp at hall
  clear hall
  by_cases a4 : (wholeL l []).2 = false
  · have e : numbersL s l = (⟨4, s, [], l⟩, true) := by unfold numbersL; rw [if_neg a1, if_neg a2, if_neg a3, if_pos a4]
    rw [e]
    have e2 : numsOf ⟨4, s, [], l⟩ = l := by unfold numsOf; rw [if_pos rfl]
    rw [e2, e]
  · have hl := wholeL_len_ok l [] (by simpa using a4)
    have hr : ∀ (l' : List Int), ((l'.map ofB).any fun d => !rightB d) = false := by
      intro l'
      rw [List.any_eq_false]
      intro d hd
      obtain ⟨x, _, rfl⟩ := List.mem_map.1 hd
      simp [ofB_right]
    generalize hW : (wholeL l []).1 = W at *
    have key : ∀ k : Int, k = 1 ∨ k = 2 → numsOf (⟨k, s, W, []⟩ : Nd) = W.map ofB := by
      intro k hk
      unfold numsOf
      rw [if_neg (by simp only; omega)]
    have lenW : W.length = l.length := by simpa using hl
    have full : numbersL s (W.map ofB) = if (W.map ofB).length > 0 ∧ W.any great = false then (⟨1, s, W, []⟩, true) else (⟨2, s, W, []⟩, true) := by
      unfold numbersL
      rw [if_neg a1, if_neg (by rw [List.length_map, lenW]; exact a2), if_neg (by rw [hr]; decide), wholeL_ofB W [] hI, List.nil_append, if_neg (by simp)]
    have e : numbersL s l = if l.length > 0 ∧ W.any great = false then (⟨1, s, W, []⟩, true) else (⟨2, s, W, []⟩, true) := by unfold numbersL; rw [if_neg a1, if_neg a2, if_neg a3, if_neg a4, hW]
    rw [List.length_map, lenW] at full
    rw [e]
    split
    · rename_i c
      rw [key 1 (.inl rfl), full, if_pos c]
    · rename_i c
      rw [key 2 (.inr rfl), full, if_neg c]
theorem joinGo_own (s : List Int) (m : Nat) : ∀ (l : List Nd) (cs : List Int) (ds : List Dec), (∀ n ∈ l, ∀ d ∈ numsOf n, wfD d) → (∀ d ∈ ds, wfD d) → (joinGo s m l cs ds).2 = true →
    (joinGo s m l cs ds).1.f0 = 3 ∨ ((joinGo s m l cs ds).1.f0 ≠ 3 ∧ (joinGo s m l cs ds).1.f0 ≠ 5 ∧ (joinGo s m l cs ds).1.f1 = s ∧ (numbersL s (numsOf (joinGo s m l cs ds).1)).1 = (joinGo s m l cs ds).1)
  | [], cs, ds, _, hd, h => by
    unfold joinGo at h ⊢
    split
    · exact .inl rfl
    · rename_i c
      rw [if_neg c] at h
      have hi := numbersL_items h
      refine .inr ⟨?_, hi.2.2.1, hi.2.2.2, by rw [numbersL_own hd h]⟩
      unfold numbersL at h ⊢
      repeat' split
      all_goals first | (simp; done) | simp_all
  | n :: l, cs, ds, hn, hd, h => by
    unfold joinGo at h ⊢
    split at h
    · simp at h
    rename_i h1
    rw [if_neg h1]
    split at h
    · rename_i h3
      rw [if_pos h3]
      exact joinGo_own s m l _ _ (fun x hx => hn x (by simp [hx])) hd h
    · rename_i h3
      rw [if_neg h3]
      refine joinGo_own s m l _ _ (fun x hx => hn x (by simp [hx])) (fun d hx => ?_) h
      rcases List.mem_append.1 hx with hx | hx
      · exact hd d hx
      · exact hn n (by simp) d hx
theorem joinL_own (s : List Int) (l : List Nd) (hl : ∀ n ∈ l, ∀ d ∈ numsOf n, wfD d) (h : (joinL s l).2 = true) :
    (joinL s l).1.f0 = 3 ∨ ((joinL s l).1.f0 ≠ 3 ∧ (joinL s l).1.f0 ≠ 5 ∧ (joinL s l).1.f1 = s ∧ (numbersL s (numsOf (joinL s l).1)).1 = (joinL s l).1) := joinGo_own s l.length l [] [] hl (by simp) h
theorem numbersL_kind {s : List Int} {l : List Dec} (h : (numbersL s l).2 = true) : (numbersL s l).1.f0 ≠ 3 := by
  unfold numbersL at h ⊢
  repeat' split
  all_goals first | (simp; done) | simp_all
/-- The tight form of a node's tight form is it. -/
theorem form1_own (n : Nd) (k : Fo) (h : 0 ≤ items n) (hw : wfN n) (hk : ∀ x ∈ heads k, wfN x) : form1 (form1 n k).1 (form1 n k).2 = form1 n k := by
  obtain ⟨w1, w2, w3, w6, w7⟩ := wants_nonneg h
  by_cases a3 : n.f0 = 3
  · have e : form1 n k = (n, nil) := by unfold form1; rw [if_pos a3]
    rw [e]
    unfold form1
    rw [if_pos a3]
  by_cases a5 : n.f0 = 5
  · by_cases j : (joinL n.f1 (heads k)).2 = true
    · have e : form1 n k = ((joinL n.f1 (heads k)).1, nil) := by unfold form1; rw [if_neg a3, if_pos a5, if_pos j]
      rw [e]
      rcases joinL_own n.f1 (heads k) (fun x hx d hd => numsOf_wf (hk x hx) d hd) j with c | ⟨c1, c2, c3, c4⟩
      · unfold form1
        rw [if_pos c]
      · unfold form1
        rw [if_neg c1, if_neg c2, c3]
        exact congrArg (·, nil) c4
    · have e : form1 n k = (⟨5, n.f1, [], []⟩, k) := by unfold form1; rw [if_neg a3, if_pos a5, if_neg j]
      rw [e]
      unfold form1
      rw [if_neg (by simp), if_pos rfl, if_neg j]
  · have hg := numsOf_good h a3 a5
    have hgood := numbersL_good w1 (by rw [← w2, hg.1]) hg.2
    have e : form1 n k = ((numbersL n.f1 (numsOf n)).1, nil) := by unfold form1; rw [if_neg a3, if_neg a5]
    have hi := numbersL_items hgood
    rw [e]
    unfold form1
    rw [if_neg (numbersL_kind hgood), if_neg hi.2.2.1, hi.2.2.2, numbersL_own (numsOf_wf hw) hgood]
theorem formF_own : ∀ f : Fo, f.ok → (∀ x ∈ f.flat, wfN x) → formF (formF f) = formF f
  | nil, _, _ => rfl
  | node n k s, h, hw => by
    obtain ⟨h0, h5, hn5, hk, hs⟩ := h
    have hwk : ∀ x ∈ k.flat, wfN x := fun x hx => hw x (by simp [flat, hx])
    have hws : ∀ x ∈ s.flat, wfN x := fun x hx => hw x (by simp [flat, hx])
    have ik := formF_own k hk hwk
    have is := formF_own s hs hws
    have hwf := form_wf k hk hwk
    have h1 := form1_own n (formF k) h0 (hw n (by simp [flat])) (fun x hx => hwf x (heads_flat _ x hx))
    simp only [formF]
    have e : formF (form1 n (formF k)).2 = (form1 n (formF k)).2 := by
      rcases form1_two n (formF k) with q | q
      · rw [q]; rfl
      · rw [q, ik]
    rw [e, is, h1]
/-- A forest that is right is told by its nodes and how many trees it has. -/
theorem flat_inj : ∀ (f g : Fo) (r q : List Nd), f.ok → g.ok → f.len = g.len → f.flat ++ r = g.flat ++ q → f = g ∧ r = q
  | nil, nil, r, q, _, _, _, h => ⟨rfl, by simpa [flat] using h⟩
  | nil, node n k s, r, q, _, _, h, _ => by simp [len] at h
  | node n k s, nil, r, q, _, _, h, _ => by simp [len] at h
  | node n k s, node m j t, r, q, hf, hg, hl, h => by
    simp only [flat, List.cons_append, List.cons.injEq, List.append_assoc] at h
    obtain ⟨rfl, h⟩ := h
    have hkl : k.len = j.len := by
      by_cases a5 : n.f0 = 5
      · have h1 := hf.2.1 a5
        have h2 := hg.2.1 a5
        omega
      · rw [hf.2.2.1 a5, hg.2.2.1 a5]
    obtain ⟨e1, h1⟩ := flat_inj k j (s.flat ++ r) (t.flat ++ q) hf.2.2.2.1 hg.2.2.2.1 hkl h
    simp only [len, Nat.add_right_cancel_iff] at hl
    obtain ⟨e2, h2⟩ := flat_inj s t r q hf.2.2.2.2 hg.2.2.2.2 hl h1
    exact ⟨by rw [e1, e2], h2⟩
theorem tree_inj {n m : Nd} {k j : Fo} (h1 : (node n k nil).ok) (h2 : (node m j nil).ok) (h : n :: k.flat = m :: j.flat) : n = m ∧ k = j := by
  have := flat_inj (node n k nil) (node m j nil) [] [] h1 h2 rfl (by simpa [flat] using h)
  have e := this.1
  simp only [node.injEq, and_true] at e
  exact e
end Go.Proofs.YtpkjiplgpgbheaaGreatDoor.Sp
