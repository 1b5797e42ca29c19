/- The tight form is right again, and no greater. -/
import Derived.Test.YtpkjiplgpgbheaaGreatDoorP14EpFo2
set_option linter.unusedVariables false
set_option linter.unusedSimpArgs false
set_option linter.unusedSectionVars false
namespace Go.Proofs.YtpkjiplgpgbheaaGreatDoor.Sp
open Go.RowKit Go.Proofs.YtpkjiplgpgbheaaGreatDoor.Ba  Go.Proofs.YtpkjiplgpgbheaaGreatDoor.Dm Go.Proofs.YtpkjiplgpgbheaaGreatDoor.Ba Go.Lib
open Fo
theorem wholeL_len_ok : ∀ (l : List Dec) (acc : List Int), (wholeL l acc).2 = true → (wholeL l acc).1.length = acc.length + l.length
  | [], acc, _ => by simp [wholeL]
  | d :: l, acc, h => by
    unfold wholeL at h ⊢
    split at h
    · rename_i h1
      rw [if_pos h1, wholeL_len_ok l _ h]
      simp
      omega
    · simp at h
theorem items_of {n : Nd} {i d : Int} (h1 : (cnt n.f1).2 = true) (h2 : wants n.f0 (cnt n.f1).1 = some (i, d)) (h3 : (n.f2.length : Int) = i) (h4 : (n.f3.length : Int) = d) (h5 : ∀ x ∈ n.f2, fitsB n.f0 x = true) (h6 : ∀ x ∈ n.f3, rightB x = true) : items n = (cnt n.f1).1 := by
  unfold items
  rw [if_neg (by simp [h1]), h2]
  simp only [h3, h4, ne_eq, not_true_eq_false, if_false]
  rw [if_neg (by simpa using h5), if_neg (by simpa using h6)]
theorem numbersL_items {s : List Int} {l : List Dec} (h : (numbersL s l).2 = true) : items (numbersL s l).1 = (cnt s).1 ∧ (cnt s).1 = l.length ∧ (numbersL s l).1.f0 ≠ 5 ∧ (numbersL s l).1.f1 = s := by
  unfold numbersL at h ⊢
  by_cases a1 : (cnt s).2 = false
  · simp [a1] at h
  rw [if_neg a1] at h ⊢
  by_cases a2 : (cnt s).1 ≠ l.length
  · simp [a2] at h
  rw [if_neg a2] at h ⊢
  by_cases a3 : (l.any fun d => !rightB d) = true
  · rw [if_pos a3] at h; simp at h
  rw [if_neg a3] at h ⊢
  have a2' : (cnt s).1 = l.length := by simpa using a2
  have a1' : (cnt s).2 = true := by simpa using a1
  by_cases a4 : (wholeL l []).2 = false
  · rw [if_pos a4]
    exact ⟨items_of a1' (by simp [wants]; exact ⟨rfl, rfl⟩) (by simp) (by simp [a2']) (by simp) (by simpa using a3), a2', by simp, rfl⟩
  rw [if_neg a4]
  have hl := wholeL_len_ok l [] (by simpa using a4)
  by_cases a5 : l.length > 0 ∧ (wholeL l []).1.any great = false
  · rw [if_pos a5]
    refine ⟨items_of a1' (by simp [wants]; exact ⟨rfl, rfl⟩) (by simp [hl, a2']) (by simp) (fun x hx => ?_) (by simp), a2', by simp, rfl⟩
    have := a5.2
    simp [great] at this
    simpa [fitsB] using this x hx
  rw [if_neg a5]
  exact ⟨items_of a1' (by simp [wants]; exact ⟨rfl, rfl⟩) (by simp [hl, a2']) (by simp) (fun x hx => by simp [fitsB]) (by simp), a2', by simp, rfl⟩
theorem wants_nonneg {n : Nd} (h : 0 ≤ items n) : (cnt n.f1).2 = true ∧ items n = (cnt n.f1).1 ∧ (∃ i d, wants n.f0 (cnt n.f1).1 = some (i, d) ∧ (n.f2.length : Int) = i ∧ (n.f3.length : Int) = d) ∧ (∀ x ∈ n.f2, fitsB n.f0 x = true) ∧ (∀ x ∈ n.f3, rightB x = true) := by
  unfold items at h ⊢
  by_cases a1 : (cnt n.f1).2 = false
  · rw [if_pos a1] at h; omega
  rw [if_neg a1] at h ⊢
  rcases hw : wants n.f0 (cnt n.f1).1 with _ | ⟨i, d⟩
  · rw [hw] at h; simp at h
  rw [hw] at h
  simp only at h ⊢
  by_cases a2 : (n.f2.length : Int) ≠ i
  · rw [if_pos a2] at h; omega
  rw [if_neg a2] at h ⊢
  by_cases a3 : (n.f3.length : Int) ≠ d
  · rw [if_pos a3] at h; omega
  rw [if_neg a3] at h ⊢
  by_cases a4 : (n.f2.any fun x => !fitsB n.f0 x) = true
  · rw [if_pos a4] at h; omega
  rw [if_neg a4] at h ⊢
  by_cases a5 : (n.f3.any fun x => !rightB x) = true
  · rw [if_pos a5] at h; omega
  rw [if_neg a5]
  exact ⟨by simpa using a1, rfl, ⟨i, d, rfl, by simpa using a2, by simpa using a3⟩, by simpa using a4, by simpa using a5⟩
theorem joinGo_items (s : List Int) (m : Nat) : ∀ (l : List Nd) (cs : List Int) (ds : List Dec), (∀ n ∈ l, 0 ≤ items n) → (∀ x ∈ cs, fitsB 3 x = true) → (cnt s).2 = true → (cnt s).1 = m → (joinGo s m l cs ds).2 = true →
    items (joinGo s m l cs ds).1 = (cnt s).1 ∧ (joinGo s m l cs ds).1.f0 ≠ 5 ∧ (joinGo s m l cs ds).1.f1 = s
  | [], cs, ds, _, hc, h2, hm, h => by
    unfold joinGo at h ⊢
    split at h
    · rename_i h1
      rw [if_pos h1]
      exact ⟨items_of h2 (by simp [wants]; exact ⟨rfl, rfl⟩) (by simp [h1.1, hm]) (by simp) hc (by simp), by simp, rfl⟩
    · rename_i h1
      rw [if_neg h1]
      have := numbersL_items h
      exact ⟨this.1, this.2.2⟩
  | n :: l, cs, ds, hn, hc, h2, hm, h => by
    unfold joinGo at h ⊢
    split at h
    · simp at h
    rename_i h1
    rw [if_neg h1]
    split at h
    · rename_i h3
      rw [if_pos h3]
      refine joinGo_items s m l _ _ (fun x hx => hn x (by simp [hx])) (fun x hx => ?_) h2 hm h
      rcases List.mem_append.1 hx with hx | hx
      · exact hc x hx
      · have := (wants_nonneg (hn n (by simp))).2.2.2.1 x hx
        rwa [h3] at this
    · rename_i h3
      rw [if_neg h3]
      exact joinGo_items s m l _ _ (fun x hx => hn x (by simp [hx])) hc h2 hm h
theorem ofB_right (x : Int) : rightB (ofB x) = true := by
  refine (rightD_iff _ _).2 ?_
  unfold ofB
  rcases h : normD x 0 with ⟨a, b, t⟩
  cases t with
  | true => exact normD_right h
  | false =>
    have := normD_false h rfl
    simp only [Prod.mk.injEq] at this
    exact .inl ⟨this.1, this.2.1⟩
theorem numsOf_good {n : Nd} (h : 0 ≤ items n) (_h3 : n.f0 ≠ 3) (h5 : n.f0 ≠ 5) : ((numsOf n).length : Int) = items n ∧ ∀ d ∈ numsOf n, rightB d = true := by
  obtain ⟨w1, w2, ⟨i, d, w3, w4, w5⟩, w6, w7⟩ := wants_nonneg h
  unfold wants at w3
  by_cases a : n.f0 = 1 ∨ n.f0 = 2 ∨ n.f0 = 3
  · rw [if_pos a] at w3
    simp only [Option.some.injEq, Prod.mk.injEq] at w3
    have h4 : n.f0 ≠ 4 := by omega
    unfold numsOf
    rw [if_neg h4]
    refine ⟨by rw [List.length_map]; omega, fun d hd => ?_⟩
    obtain ⟨x, hx, rfl⟩ := List.mem_map.1 hd
    exact ofB_right x
  · rw [if_neg a] at w3
    by_cases h4 : n.f0 = 4
    · rw [if_pos h4] at w3
      simp only [Option.some.injEq, Prod.mk.injEq] at w3
      unfold numsOf
      rw [if_pos h4]
      exact ⟨by omega, w7⟩
    · rw [if_neg h4, if_neg h5] at w3
      cases w3
theorem numbersL_good {s : List Int} {l : List Dec} (h1 : (cnt s).2 = true) (h2 : (cnt s).1 = l.length) (h3 : ∀ d ∈ l, rightB d = true) : (numbersL s l).2 = true := by
  unfold numbersL
  rw [if_neg (by simp [h1]), if_neg (by simp [h2]), if_neg (by simpa using h3)]
  repeat' split
  all_goals rfl
theorem form1_items (n : Nd) (k : Fo) (h : 0 ≤ items n) (hk : ∀ x ∈ heads k, 0 ≤ items x) (h5 : n.f0 = 5 → (k.len : Int) = items n) (_hn5 : n.f0 ≠ 5 → k = nil) :
    items (form1 n k).1 = items n ∧ ((form1 n k).1.f0 = 5 → ((form1 n k).2.len : Int) = items n) ∧ ((form1 n k).1.f0 ≠ 5 → (form1 n k).2 = nil) ∧ ((form1 n k).2 = nil ∨ (form1 n k).2 = k) ∧ (form1 n k).1.f1 = n.f1 := by
  obtain ⟨w1, w2, w3, w6, w7⟩ := wants_nonneg h
  unfold form1
  by_cases a3 : n.f0 = 3
  · rw [if_pos a3]
    exact ⟨rfl, fun e => by simp only at e; omega, fun _ => rfl, .inl rfl, rfl⟩
  rw [if_neg a3]
  by_cases a5 : n.f0 = 5
  · rw [if_pos a5]
    by_cases j : (joinL n.f1 (heads k)).2 = true
    · rw [if_pos j]
      have := joinGo_items n.f1 (heads k).length (heads k) [] [] hk (by simp) w1 (by rw [heads_len, h5 a5, w2]) j
      exact ⟨this.1.trans w2.symm, fun e => absurd e this.2.1, fun _ => rfl, .inl rfl, this.2.2⟩
    · rw [if_neg j]
      exact ⟨(items_of (n := ⟨5, n.f1, [], []⟩) w1 (i := 0) (d := 0) (by simp [wants]) (by simp) (by simp) (by simp) (by simp)).trans w2.symm, fun _ => h5 a5, fun e => absurd rfl e, .inr rfl, rfl⟩
  · rw [if_neg a5]
    have hg := numsOf_good h a3 a5
    have := numbersL_items (numbersL_good w1 (by rw [← w2, hg.1]) hg.2)
    exact ⟨this.1.trans w2.symm, fun e => absurd e this.2.2.1, fun _ => rfl, .inl rfl, this.2.2.2⟩
theorem form_ok : ∀ f : Fo, f.ok → (formF f).ok ∧ (formF f).len = f.len ∧ (formF f).tot ≤ f.tot ∧ (formF f).dep ≤ f.dep ∧ ∀ x ∈ heads (formF f), 0 ≤ items x
  | nil, _ => by simp [formF, ok, heads]
  | node n k s, h => by
    obtain ⟨h0, h5, hn5, hk, hs⟩ := h
    obtain ⟨k1, k2, k3, k4, k5⟩ := form_ok k hk
    obtain ⟨s1, s2, s3, s4, s5⟩ := form_ok s hs
    have hn5' : n.f0 ≠ 5 → formF k = nil := fun e => by rw [hn5 e]; rfl
    obtain ⟨q1, q2, q3, q4, q5⟩ := form1_items n (formF k) h0 k5 (fun e => by rw [k2]; exact h5 e) hn5'
    have hkt := tot_nonneg k hk
    have hq : (form1 n (formF k)).2.ok ∧ (form1 n (formF k)).2.tot ≤ k.tot ∧ (form1 n (formF k)).2.dep ≤ k.dep := by
      rcases q4 with q4 | q4
      · rw [q4]; exact ⟨trivial, hkt, Nat.zero_le _⟩
      · rw [q4]; exact ⟨k1, k3, k4⟩
    refine ⟨⟨by rw [q1]; exact h0, fun e => by rw [q2 e, q1], q3, hq.1, s1⟩, ?_, ?_, ?_, ?_⟩
    · simp only [formF, len, s2]
    · simp only [formF, tot, q1]; omega
    · simp only [formF, dep]; omega
    · intro x hx
      simp only [formF, heads, List.mem_cons] at hx
      rcases hx with rfl | hx
      · rw [q1]; exact h0
      · exact s5 x hx
theorem data_le {n : Nd} (h : 0 ≤ items n) : n.f2.length ≤ 1048576 ∧ n.f3.length ≤ 1048576 := by
  obtain ⟨w1, w2, ⟨i, d, w3, w4, w5⟩, w6, w7⟩ := wants_nonneg h
  have hc := cnt_le n.f1
  have : 0 ≤ i ∧ i ≤ 1048576 ∧ 0 ≤ d ∧ d ≤ 1048576 := by
    unfold wants at w3
    split at w3
    · simp only [Option.some.injEq, Prod.mk.injEq] at w3; omega
    · split at w3
      · simp only [Option.some.injEq, Prod.mk.injEq] at w3; omega
      · split at w3
        · simp only [Option.some.injEq, Prod.mk.injEq] at w3; omega
        · cases w3
  omega
theorem ok_items : ∀ f : Fo, f.ok → ∀ n ∈ f.flat, 0 ≤ items n
  | nil, _ => by simp [flat]
  | node n k s, h => by
    intro x hx
    simp only [flat, List.mem_cons, List.mem_append] at hx
    rcases hx with rfl | hx | hx
    · exact h.1
    · exact ok_items k h.2.2.2.1 x hx
    · exact ok_items s h.2.2.2.2 x hx
theorem wholeL_I : ∀ (l : List Dec) (acc : List Int), (∀ x ∈ acc, I x) → ∀ x ∈ (wholeL l acc).1, I x
  | [], acc, h => h
  | d :: l, acc, h => by
    unfold wholeL
    split
    · refine wholeL_I l _ (fun x hx => ?_)
      rcases List.mem_append.1 hx with hx | hx
      · exact h x hx
      · obtain rfl := List.mem_singleton.1 hx
        unfold wholeB whole I
        split
        · rename_i q; exact ⟨by simp only; omega, by simp only; omega⟩
        · exact ⟨by decide, by decide⟩
    · simp
theorem numbersL_wf {s : List Int} {l : List Dec} (hs : ∀ x ∈ s, I x) (hl : s.length ≤ 1099511627776) (hd : ∀ d ∈ l, wfD d) (hdl : l.length ≤ 1099511627776) : wfN (numbersL s l).1 := by
  have i1 := wholeL_I l [] (by simp)
  have i2 := wholeL_len l []
  have hI : ∀ k : Int, 0 ≤ k → k ≤ 5 → I k := fun k h1 h2 => by unfold I; omega
  have z : wfN zN := ⟨hI 0 (by decide) (by decide), by simp [zN], by simp [zN], by simp [zN], by simp [zN], by simp [zN], by simp [zN]⟩
  unfold numbersL
  repeat' split
  all_goals first | exact z | skip
  · exact ⟨hI _ (by simp) (by simp), hs, by simp, hd, hl, by simp, hdl⟩
  · exact ⟨hI _ (by simp) (by simp), hs, i1, by simp, hl, by simp at i2 ⊢; omega, by simp⟩
  · exact ⟨hI _ (by simp) (by simp), hs, i1, by simp, hl, by simp at i2 ⊢; omega, by simp⟩
theorem ofB_I (x : Int) (h : I x) : wfD (ofB x) := by
  unfold wfD ofB
  dsimp only
  by_cases h0 : x = 0
  · subst h0
    have : normD 0 0 = (0, 0, true) := by unfold normD; rw [if_pos rfl]
    rw [this]
    exact ⟨by unfold I; decide, by unfold I; decide⟩
  · obtain ⟨s1, s2, s3, s4, s5, s6⟩ := strip_spec x 0 h0
    have s5 := s5 (by decide)
    have hp : (0 : Int) < 10 ^ ((strip x 0).2 - 0).toNat := Int.pow_pos (by decide)
    have hsg : 0 < (strip x 0).1 → 0 < x := fun h => by rw [s3]; exact Int.mul_pos h hp
    clear s3 hp
    unfold I at h
    unfold normD I
    rw [if_neg h0]
    split
    · exact ⟨by decide, by decide⟩
    · split
      · exact ⟨by decide, by decide⟩
      · dsimp only
        by_cases hq : 0 < (strip x 0).1
        · have := hsg hq
          omega
        · omega
theorem numsOf_wf {n : Nd} (h : wfN n) : ∀ d ∈ numsOf n, wfD d := by
  unfold numsOf
  split
  · exact h.d
  · intro d hd
    obtain ⟨x, hx, rfl⟩ := List.mem_map.1 hd
    exact ofB_I x (h.i x hx)
theorem numsOf_le {n : Nd} (h : 0 ≤ items n) : (numsOf n).length ≤ 1048576 := by
  have := data_le h
  unfold numsOf
  split
  · exact this.2
  · rw [List.length_map]; exact this.1
theorem joinGo_wf (s : List Int) (hs : ∀ x ∈ s, I x) (hl : s.length ≤ 1099511627776) (m : Nat) : ∀ (l : List Nd) (cs : List Int) (ds : List Dec), (∀ n ∈ l, wfN n ∧ 0 ≤ items n) → (∀ x ∈ cs, I x) → (∀ d ∈ ds, wfD d) →
    cs.length + l.length * 1048576 ≤ 1099511627776 → ds.length + l.length * 1048576 ≤ 1099511627776 → wfN (joinGo s m l cs ds).1
  | [], cs, ds, _, hc, hd, h1, h2 => by
    unfold joinGo
    split
    · exact ⟨by unfold I; simp, hs, hc, by simp, hl, by simpa using h1, by simp⟩
    · exact numbersL_wf hs hl hd (by simpa using h2)
  | n :: l, cs, ds, hn, hc, hd, h1, h2 => by
    have hI : ∀ k : Int, 0 ≤ k → k ≤ 5 → I k := fun k h1 h2 => by unfold I; omega
    have hq := hn n (by simp)
    have b1 := data_le hq.2
    have b2 := numsOf_le hq.2
    simp only [List.length_cons, Nat.succ_mul] at h1 h2
    have a3 : cs.length + l.length * 1048576 ≤ 1099511627776 := Nat.le_trans (Nat.add_le_add_left (Nat.le_add_right _ _) _) h1
    have a4 : ds.length + l.length * 1048576 ≤ 1099511627776 := Nat.le_trans (Nat.add_le_add_left (Nat.le_add_right _ _) _) h2
    have a1 : (cs ++ n.f2).length + l.length * 1048576 ≤ 1099511627776 := by rw [List.length_append]; omega
    have a2 : (ds ++ numsOf n).length + l.length * 1048576 ≤ 1099511627776 := by rw [List.length_append]; omega
    unfold joinGo
    split
    · exact ⟨hI 0 (by decide) (by decide), by simp [zN], by simp [zN], by simp [zN], by simp [zN], by simp [zN], by simp [zN]⟩
    · split
      · refine joinGo_wf s hs hl m l _ _ (fun x hx => hn x (by simp [hx])) (fun x hx => ?_) hd a1 a4
        rcases List.mem_append.1 hx with hx | hx
        · exact hc x hx
        · exact hq.1.i x hx
      · refine joinGo_wf s hs hl m l _ _ (fun x hx => hn x (by simp [hx])) hc (fun x hx => ?_) a3 a2
        rcases List.mem_append.1 hx with hx | hx
        · exact hd x hx
        · exact numsOf_wf hq.1 x hx
theorem form1_wf (n : Nd) (k : Fo) (h : wfN n) (hk : ∀ x ∈ heads k, wfN x ∧ 0 ≤ items x) (hl : k.len ≤ 1048576) : wfN (form1 n k).1 := by
  have hI : ∀ k : Int, 0 ≤ k → k ≤ 5 → I k := fun k h1 h2 => by unfold I; omega
  unfold form1
  split
  · exact h
  · split
    · split
      · exact joinGo_wf n.f1 h.s h.ls _ _ [] [] hk (by simp) (by simp) (by rw [heads_len]; simp only [List.length_nil, Nat.zero_add]; exact Nat.le_trans (Nat.mul_le_mul_right _ hl) (by decide)) (by rw [heads_len]; simp only [List.length_nil, Nat.zero_add]; exact Nat.le_trans (Nat.mul_le_mul_right _ hl) (by decide))
      · exact ⟨hI _ (by simp) (by simp), h.s, by simp, by simp, h.ls, by simp, by simp⟩
    · refine numbersL_wf h.s h.ls (numsOf_wf h) ?_
      unfold numsOf
      split
      · exact h.ld
      · rw [List.length_map]; exact h.li
theorem heads_flat : ∀ (f : Fo), ∀ x ∈ heads f, x ∈ f.flat
  | nil => by simp [heads]
  | node n k s => by
    intro x hx
    simp only [heads, List.mem_cons] at hx
    rcases hx with rfl | hx
    · simp [flat]
    · simp [flat, heads_flat s x hx]
theorem ok_len {n : Nd} {k : Fo} (h : 0 ≤ items n) (h5 : n.f0 = 5 → (k.len : Int) = items n) (hn5 : n.f0 ≠ 5 → k = nil) : k.len ≤ 1048576 := by
  have := (wants_nonneg h).2.1
  have := cnt_le n.f1
  by_cases e : n.f0 = 5
  · have := h5 e; omega
  · rw [hn5 e]; simp [len]
theorem form_wf : ∀ f : Fo, f.ok → (∀ x ∈ f.flat, wfN x) → ∀ x ∈ (formF f).flat, wfN x
  | nil, _, _ => by simp [formF, flat]
  | node n k s, h, hw => by
    obtain ⟨h0, h5, hn5, hk, hs⟩ := h
    have wk := form_wf k hk (fun x hx => hw x (by simp [flat, hx]))
    have ws := form_wf s hs (fun x hx => hw x (by simp [flat, hx]))
    obtain ⟨k1, k2, k3, k4, k5⟩ := form_ok k hk
    have hl := ok_len h0 h5 hn5
    have w1 := form1_wf n (formF k) (hw n (by simp [flat])) (fun x hx => ⟨wk x (heads_flat _ x hx), k5 x hx⟩) (by rw [k2]; exact hl)
    obtain ⟨q1, q2, q3, q4, q5⟩ := form1_items n (formF k) h0 k5 (fun e => by rw [k2]; exact h5 e) (fun e => by rw [hn5 e]; rfl)
    intro x hx
    simp only [formF, flat, List.mem_cons, List.mem_append] at hx
    rcases hx with rfl | hx | hx
    · exact w1
    · rcases q4 with q4 | q4
      · rw [q4] at hx; simp [flat] at hx
      · rw [q4] at hx; exact wk x hx
    · exact ws x hx
/-- The tight form of one tree. -/
def form (n : Nd) (k : Fo) : List Nd := (form1 n (formF k)).1 :: (form1 n (formF k)).2.flat
theorem form_flat (n : Nd) (k : Fo) : (formF (node n k nil)).flat = form n k := by simp [formF, flat, form]
theorem heads_trees : ∀ f : Fo, (trees f).map (fun x => x.headD zN) = heads f
  | nil => rfl
  | node n k s => by simp only [trees, List.map_cons, heads, List.headD_cons, heads_trees s]
theorem form1_two (n : Nd) (k : Fo) : (form1 n k).2 = nil ∨ (form1 n k).2 = k := by
  unfold form1
  repeat' split
  all_goals first | exact .inl rfl | exact .inr rfl
theorem form_size : ∀ f : Fo, (formF f).flat.length ≤ f.flat.length
  | nil => Nat.le_refl _
  | node n k s => by
    have h1 := form_size k
    have h2 := form_size s
    simp only [formF, flat, List.length_cons, List.length_append]
    rcases form1_two n (formF k) with q | q
    · rw [q]; simp only [flat, List.length_nil]; omega
    · rw [q]; omega
/-- The tight form in the three kinds. -/
theorem form_char_eq {n : Nd} {k : Fo} (h : n.f0 = 3) : form n k = [n] := by
  unfold form form1
  rw [if_pos h]
  rfl
theorem form_num_eq {n : Nd} {k : Fo} (h3 : n.f0 ≠ 3) (h5 : n.f0 ≠ 5) : form n k = [(numbersL n.f1 (numsOf n)).1] := by
  unfold form form1
  rw [if_neg h3, if_neg h5]
  rfl
theorem form_nest_eq {n : Nd} {k : Fo} (h5 : n.f0 = 5) : form n k = if (joinL n.f1 (heads (formF k))).2 = true then [(joinL n.f1 (heads (formF k))).1] else ⟨5, n.f1, [], []⟩ :: (trees (formF k)).flatten := by
  unfold form form1
  rw [if_neg (by omega), if_pos h5, trees_join]
  split <;> rfl
theorem trees_at : ∀ (f : Fo) (j : Nat), f.ok → j < f.len → ∃ n k, (trees f)[j]? = some (n :: k.flat) ∧ (trees (formF f))[j]? = some (form n k) ∧ (node n k nil).ok ∧ (node n k nil).tot ≤ f.tot ∧ (node n k nil).dep ≤ f.dep ∧ (∀ x ∈ n :: k.flat, x ∈ f.flat) ∧ (n :: k.flat).length ≤ f.flat.length
  | nil, j, _, hj => by simp [len] at hj
  | node n k s, 0, h, _ => by
    obtain ⟨h0, h5, hn5, hk, hs⟩ := h
    have := tot_nonneg s hs
    refine ⟨n, k, rfl, rfl, ⟨h0, h5, hn5, hk, trivial⟩, by simp only [tot]; omega, by simp only [dep]; omega, fun x hx => ?_, by simp [flat]⟩
    rcases List.mem_cons.1 hx with rfl | hx
    · simp [flat]
    · simp [flat, hx]
  | node n k s, j + 1, h, hj => by
    obtain ⟨h0, h5, hn5, hk, hs⟩ := h
    have := tot_nonneg k hk
    simp only [len] at hj
    obtain ⟨n', k', t1, t2, t3, t4, t5, t6, t7⟩ := trees_at s j hs (by omega)
    refine ⟨n', k', by simpa [trees] using t1, by simpa [trees, formF] using t2, t3, by simp only [tot] at t4 ⊢; omega, by simp only [dep] at t5 ⊢; omega, fun x hx => ?_, ?_⟩
    · have := t6 x hx
      simp [flat, this]
    · simp only [flat, List.length_cons, List.length_append] at t7 ⊢
      omega
end Go.Proofs.YtpkjiplgpgbheaaGreatDoor.Sp
