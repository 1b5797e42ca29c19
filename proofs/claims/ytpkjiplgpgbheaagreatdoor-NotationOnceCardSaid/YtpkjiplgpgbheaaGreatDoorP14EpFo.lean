/- Arrays as forests: what array.walk says of them. -/
import Derived.Test.YtpkjiplgpgbheaaGreatDoorP14EpSp
set_option linter.unusedVariables false
set_option linter.unusedSimpArgs false
set_option linter.unusedSectionVars false
namespace Go.Proofs.YtpkjiplgpgbheaaGreatDoor.Sp
set_option linter.unusedSimpArgs false
set_option linter.unusedVariables false
open Go.RowKit Go.Proofs.YtpkjiplgpgbheaaGreatDoor.Ba  Go.Proofs.YtpkjiplgpgbheaaGreatDoor.Dm Go.Proofs.YtpkjiplgpgbheaaGreatDoor.Ba Go.Lib
/-- Arrays that stand side by side: the first one's node, the arrays in it, those behind it. -/
inductive Fo where
  | nil : Fo
  | node (n : Nd) (k s : Fo) : Fo
namespace Fo
def flat : Fo → List Nd
  | nil => []
  | node n k s => n :: (k.flat ++ s.flat)
def len : Fo → Nat
  | nil => 0
  | node _ _ s => s.len + 1
def dep : Fo → Nat
  | nil => 0
  | node _ k s => max (k.dep + 1) s.dep
def tot : Fo → Int
  | nil => 0
  | node n k s => items n + k.tot + s.tot
def ok : Fo → Prop
  | nil => True
  | node n k s => 0 ≤ items n ∧ (n.f0 = 5 → (k.len : Int) = items n) ∧ (n.f0 ≠ 5 → k = nil) ∧ k.ok ∧ s.ok
theorem tot_nonneg : ∀ f : Fo, f.ok → 0 ≤ f.tot
  | nil, _ => by simp [tot]
  | node n k s, h => by
    have h1 := tot_nonneg k h.2.2.2.1
    have h2 := tot_nonneg s h.2.2.2.2
    have := h.1
    simp only [tot]
    omega
end Fo
open Fo
def walkZ (a : List Nd) (k all deep : Int) (st : List Int) : Int × Int × Int := if pops st = [] then (k, all, deep) else walkL a k all deep (pops st)
theorem walkL_cons (n : Nd) (a : List Nd) (k all deep : Int) (st : List Int) :
    walkL (n :: a) k all deep st = if items n < 0 ∨ all + items n > 1048576 ∨ st.length ≥ 16 then (0, 0, 0) else walkZ a (k + 1) (all + items n) (max deep ((st.length : Int) + 1)) (push n (items n) st) := rfl
theorem walkZ_top {a : List Nd} {k all deep c : Int} {st : List Int} (h : c ≠ 0) : walkZ a k all deep (c :: st) = walkL a k all deep (c :: st) := by
  unfold walkZ
  rw [pops_stop st h, if_neg (by simp)]
theorem walkZ_two (a : List Nd) (k all deep c : Int) (st : List Int) : walkZ a k all deep (0 :: c :: st) = walkZ a k all deep ((c - 1) :: st) := by
  unfold walkZ
  rw [pops_two]
theorem walkZ_one (a : List Nd) (k all deep : Int) : walkZ a k all deep [0] = (k, all, deep) := by
  unfold walkZ
  rw [pops_one, if_pos rfl]
/-- A forest is gone through. -/
theorem walk_flat : ∀ (f : Fo) (rest : List Nd) (k all deep c : Int) (st : List Int), f.ok → 0 ≤ c → all + f.tot ≤ 1048576 → (st.length : Int) + 1 + f.dep ≤ 16 → (st.length : Int) + 1 ≤ deep →
    walkZ (f.flat ++ rest) k all deep ((c + f.len) :: st) = walkZ rest (k + f.flat.length) (all + f.tot) (max deep ((st.length : Int) + 1 + f.dep)) (c :: st)
  | nil, rest, k, all, deep, c, st, _, _, _, _, hd => by
    simp only [flat, len, tot, dep, List.nil_append, List.length_nil]
    rw [show max deep ((st.length : Int) + 1 + ((0 : Nat) : Int)) = deep by omega]
    simp
  | node n kf s, rest, k, all, deep, c, st, h, hc, ht, hdep, hd => by
    obtain ⟨h0, h5, hn5, hk, hs⟩ := h
    have tk := tot_nonneg kf hk
    have ts := tot_nonneg s hs
    simp only [tot, dep] at ht hdep
    have hdk : kf.dep + 1 ≤ max (kf.dep + 1) s.dep := Nat.le_max_left _ _
    have hds : s.dep ≤ max (kf.dep + 1) s.dep := Nat.le_max_right _ _
    rw [walkZ_top (by simp only [len]; omega)]
    simp only [flat, List.cons_append]
    rw [walkL_cons, if_neg (by rw [List.length_cons]; omega)]
    simp only [List.length_cons]
    by_cases e : n.f0 = 5
    · have hl := h5 e
      have hp : push n (items n) ((c + ((node n kf s).len : Nat)) :: st) = (0 + (kf.len : Int)) :: (c + ((node n kf s).len : Nat)) :: st := by
        unfold push; rw [if_pos e]; congr 1; omega
      rw [hp, List.append_assoc, walk_flat kf _ _ _ _ _ _ hk (by omega) (by omega) (by simp; omega) (by simp; omega), walkZ_two]
      have e1 : c + ((node n kf s).len : Nat) - 1 = c + (s.len : Nat) := by simp only [len]; omega
      rw [e1, walk_flat s rest _ _ _ c st hs hc (by omega) (by omega) (by omega)]
      simp only [List.length_cons, List.length_append, tot, dep]
      congr 1 <;> omega
    · have hl : kf = nil := hn5 e
      subst hl
      have hp : push n (items n) ((c + ((node n nil s).len : Nat)) :: st) = (c + (s.len : Nat)) :: st := by
        unfold push; rw [if_neg e]; simp only [len]; congr 1; omega
      rw [hp]
      simp only [flat, List.nil_append]
      rw [walk_flat s rest _ _ _ c st hs hc (by simp only [tot] at ht; omega) (by omega) (by omega)]
      simp only [List.length_cons, List.length_append, tot, dep, flat, List.nil_append]
      congr 1 <;> omega
/-- What is gone through is a forest. -/
theorem walk_sound : ∀ (m : Nat) (a : List Nd) (k all deep c : Int) (st : List Int) (r : Int × Int × Int), a.length ≤ m → walkZ a k all deep (c :: st) = r → r.1 ≠ 0 → 0 ≤ c → all ≤ 1048576 → (st.length : Int) + 1 ≤ 16 → (st.length : Int) + 1 ≤ deep → 0 ≤ k →
    ∃ (f : Fo) (rest : List Nd), a = f.flat ++ rest ∧ f.ok ∧ (f.len : Int) = c ∧ all + f.tot ≤ 1048576 ∧ (st.length : Int) + 1 + f.dep ≤ 16 ∧ walkZ rest (k + f.flat.length) (all + f.tot) (max deep ((st.length : Int) + 1 + f.dep)) (0 :: st) = r := by
  intro m
  induction m with
  | zero =>
    intro a k all deep c st r ha h hr hc h1 h2 h3 h4
    obtain rfl : a = [] := List.eq_nil_of_length_eq_zero (by omega)
    by_cases e : c = 0
    · subst e
      exact ⟨nil, [], rfl, trivial, rfl, by simp [tot]; omega, by simp [dep]; omega, by simp only [flat, tot, dep, List.length_nil]; rw [show max deep ((st.length : Int) + 1 + ((0 : Nat) : Int)) = deep by omega]; simpa using h⟩
    · rw [walkZ_top e] at h
      simp only [walkL] at h
      subst h
      exact absurd rfl hr
  | succ m ih =>
    intro a k all deep c st r ha h hr hc h1 h2 h3 h4
    by_cases e : c = 0
    · subst e
      exact ⟨nil, a, rfl, trivial, rfl, by simp [tot]; omega, by simp [dep]; omega, by simp only [flat, tot, dep, List.length_nil]; rw [show max deep ((st.length : Int) + 1 + ((0 : Nat) : Int)) = deep by omega]; simpa using h⟩
    · rw [walkZ_top e] at h
      rcases a with _ | ⟨n, a⟩
      · simp only [walkL] at h
        subst h
        exact absurd rfl hr
      · rw [walkL_cons] at h
        by_cases hl : items n < 0 ∨ all + items n > 1048576 ∨ (c :: st).length ≥ 16
        · rw [if_pos hl] at h
          subst h
          exact absurd rfl hr
        · rw [if_neg hl] at h
          have hll : ((c :: st).length : Int) = (st.length : Int) + 1 := by simp
          rw [hll] at h
          rw [List.length_cons] at hl ha
          by_cases e5 : n.f0 = 5
          · have hp : push n (items n) (c :: st) = items n :: c :: st := by unfold push; rw [if_pos e5]
            rw [hp] at h
            obtain ⟨kf, rest1, ha1, hk1, hk2, hk3, hk4, hk5⟩ := ih a _ _ _ _ _ r (by omega) h hr (by omega) (by omega) (by simp; omega) (by simp; omega) (by omega)
            rw [walkZ_two] at hk5
            have hrl : rest1.length ≤ m := by have := congrArg List.length ha1; rw [List.length_append] at this; omega
            obtain ⟨s, rest, hs1, hs2, hs3, hs4, hs5, hs6⟩ := ih rest1 _ _ _ _ _ r hrl hk5 hr (by omega) (by omega) (by omega) (by simp only [List.length_cons] at hk4 ⊢; omega) (by omega)
            simp only [List.length_cons] at hk4 hs6
            refine ⟨node n kf s, rest, by rw [ha1, hs1]; simp [flat], ⟨by omega, fun _ => hk2, fun h => absurd e5 h, hk1, hs2⟩, by simp only [len]; omega, by simp only [tot]; omega, by simp only [dep]; omega, ?_⟩
            rw [← hs6]
            simp only [flat, tot, dep, List.length_cons, List.length_append]
            congr 1 <;> omega
          · have hp : push n (items n) (c :: st) = (c - 1) :: st := by unfold push; rw [if_neg e5]
            rw [hp] at h
            obtain ⟨s, rest, hs1, hs2, hs3, hs4, hs5, hs6⟩ := ih a _ _ _ _ _ r (by omega) h hr (by omega) (by omega) (by omega) (by omega) (by omega)
            refine ⟨node n nil s, rest, by rw [hs1]; simp [flat], ⟨by omega, fun h => absurd h e5, fun _ => rfl, trivial, hs2⟩, by simp only [len]; omega, by simp only [tot]; omega, by simp only [dep]; omega, ?_⟩
            rw [← hs6]
            simp only [flat, tot, dep, List.length_cons, List.length_append, List.nil_append]
            congr 1 <;> omega
end Go.Proofs.YtpkjiplgpgbheaaGreatDoor.Sp
