/- Arrays as forests: their kids, and their tight form. -/
import Derived.Test.YtpkjiplgpgbheaaGreatDoorP14EpFo
import Derived.Test.YtpkjiplgpgbheaaGreatDoorP14EpSp2
set_option linter.unusedVariables false
set_option linter.unusedSimpArgs false
set_option linter.unusedSectionVars false
namespace Go.Proofs.YtpkjiplgpgbheaaGreatDoor.Sp
set_option linter.unusedSimpArgs false
set_option linter.unusedVariables false
open Go.RowKit Go.Proofs.YtpkjiplgpgbheaaGreatDoor.Ba  Go.Proofs.YtpkjiplgpgbheaaGreatDoor.Dm Go.Proofs.YtpkjiplgpgbheaaGreatDoor.Ba Go.Lib
open Fo
theorem walk_tree (n : Nd) (k : Fo) (rest : List Nd) (h : (node n k nil).ok) (ht : (node n k nil).tot ≤ 1048576) (hd : (node n k nil).dep ≤ 16) :
    walk (n :: (k.flat ++ rest)) = ((1 + k.flat.length : Int), (node n k nil).tot, ((node n k nil).dep : Int)) := by
  obtain ⟨h0, h5, hn5, hk, _⟩ := h
  have tk := tot_nonneg k hk
  simp only [tot, dep] at ht hd ⊢
  have hdk : k.dep + 1 ≤ max (k.dep + 1) 0 := Nat.le_max_left _ _
  unfold walk
  rw [walkL_cons, if_neg (by simp; omega)]
  by_cases e : n.f0 = 5
  · have hl := h5 e
    have hp : push n (items n) [] = [0 + (k.len : Int)] := by unfold push; rw [if_pos e, hl]; simp
    rw [hp, walk_flat k rest _ _ _ 0 [] hk (by omega) (by omega) (by simp; omega) (by simp; omega), walkZ_one]
    simp only [List.length_nil]
    refine Prod.ext ?_ (Prod.ext ?_ ?_)
    all_goals (dsimp only; omega)
  · have hl : k = nil := hn5 e
    subst hl
    have hp : push n (items n) [] = [] := by unfold push; rw [if_neg e]
    rw [hp]
    simp [walkZ, pops, flat, tot, dep]
    decide
/-- What a walk finds. -/
theorem walk_found (a : List Nd) (r : Int × Int × Int) (h : walk a = r) (hr : r.1 ≠ 0) :
    ∃ n k rest, a = n :: (k.flat ++ rest) ∧ (node n k nil).ok ∧ (node n k nil).tot ≤ 1048576 ∧ (node n k nil).dep ≤ 16 ∧ r = ((1 + k.flat.length : Int), (node n k nil).tot, ((node n k nil).dep : Int)) := by
  unfold walk at h
  rcases a with _ | ⟨n, a⟩
  · simp only [walkL] at h
    subst h
    exact absurd rfl hr
  · rw [walkL_cons] at h
    by_cases hl : items n < 0 ∨ 0 + items n > 1048576 ∨ ([] : List Int).length ≥ 16
    · rw [if_pos hl] at h
      subst h
      exact absurd rfl hr
    · rw [if_neg hl] at h
      by_cases e : n.f0 = 5
      · have hp : push n (items n) [] = [items n] := by unfold push; rw [if_pos e]
        rw [hp] at h
        obtain ⟨k, rest, ha, hk1, hk2, hk3, hk4, hk5⟩ := walk_sound a.length a _ _ _ _ _ r (Nat.le_refl _) h hr (by omega) (by omega) (by simp) (by simp; omega) (by omega)
        have hok : (node n k nil).ok := ⟨by omega, fun _ => hk2, fun h => absurd e h, hk1, trivial⟩
        have ht : (node n k nil).tot ≤ 1048576 := by simp only [tot]; omega
        have hd : (node n k nil).dep ≤ 16 := by simp only [dep]; simp at hk4; omega
        refine ⟨n, k, rest, by rw [ha], hok, ht, hd, ?_⟩
        rw [walkZ_one] at hk5
        rw [← hk5]
        simp only [tot, dep, List.length_nil]
        refine Prod.ext ?_ (Prod.ext ?_ ?_)
        all_goals (dsimp only; omega)
      · have hp : push n (items n) [] = [] := by unfold push; rw [if_neg e]
        rw [hp] at h
        have hok : (node n nil nil).ok := ⟨by omega, fun h => absurd h e, fun _ => rfl, trivial, trivial⟩
        refine ⟨n, nil, a, by simp [flat], hok, by simp only [tot]; omega, by simp [dep], ?_⟩
        rw [← h]
        simp [walkZ, pops, flat, tot, dep]
        decide
theorem right_tree {a : List Nd} (h : rightL a = true) : ∃ n k, a = n :: k.flat ∧ (node n k nil).ok ∧ (node n k nil).tot ≤ 1048576 ∧ (node n k nil).dep ≤ 16 ∧ walk a = ((a.length : Int), (node n k nil).tot, ((node n k nil).dep : Int)) := by
  unfold rightL takeL at h
  simp at h
  obtain ⟨h0, h1⟩ := h
  obtain ⟨n, k, rest, ha, hok, ht, hd, hr⟩ := walk_found a _ rfl (by omega)
  have hl := congrArg List.length ha
  rw [hr] at h1
  simp at h1 hl
  have : rest = [] := List.eq_nil_of_length_eq_zero (by omega)
  subst this
  rw [List.append_nil] at ha
  exact ⟨n, k, ha, hok, ht, hd, by rw [hr, ha]; simp; omega⟩
theorem tree_right (n : Nd) (k : Fo) (h : (node n k nil).ok) (ht : (node n k nil).tot ≤ 1048576) (hd : (node n k nil).dep ≤ 16) : rightL (n :: k.flat) = true := by
  have := walk_tree n k [] h ht hd
  rw [List.append_nil] at this
  unfold rightL takeL
  rw [this]
  simp
  omega
/-! ### Kids -/
def trees : Fo → List (List Nd)
  | nil => []
  | node n k s => (n :: k.flat) :: trees s
theorem trees_join : ∀ f : Fo, (trees f).flatten = f.flat
  | nil => rfl
  | node n k s => by simp [trees, flat, trees_join s]
def heads : Fo → List Nd
  | nil => []
  | node n _ s => n :: heads s
theorem trees_len : ∀ f : Fo, (trees f).length = f.len
  | nil => rfl
  | node n k s => by simp [trees, len, trees_len s]
theorem heads_len : ∀ f : Fo, (heads f).length = f.len
  | nil => rfl
  | node n k s => by simp [heads, len, heads_len s]
theorem take_first (n : Nd) (k s : Fo) (h : (node n k s).ok) (ht : (node n k s).tot ≤ 1048576) (hd : (node n k s).dep ≤ 16) : takeL (node n k s).flat = ((n :: k.flat).length : Nat) := by
  obtain ⟨h0, h5, hn5, hk, hs⟩ := h
  have ts := tot_nonneg s hs
  have := walk_tree n k s.flat ⟨h0, h5, hn5, hk, trivial⟩ (by simp only [tot] at ht ⊢; omega) (by simp only [dep] at hd ⊢; omega)
  unfold takeL
  simp only [flat]
  rw [this]
  simp
  omega
/-! ### The tight form -/
def joinGo (s : List Int) (m : Nat) : List Nd → List Int → List Dec → Nd × Bool
  | [], cs, ds => if cs.length = m ∧ m > 0 then (⟨3, s, cs, []⟩, true) else numbersL s ds
  | n :: l, cs, ds => if n.f1.length > 0 ∨ n.f0 = 5 then (zN, false) else if n.f0 = 3 then joinGo s m l (cs ++ n.f2) ds else joinGo s m l cs (ds ++ numsOf n)
def joinL (s : List Int) (hs : List Nd) : Nd × Bool := joinGo s hs.length hs [] []
def form1 (n : Nd) (k : Fo) : Nd × Fo :=
  if n.f0 = 3 then (n, nil)
  else if n.f0 = 5 then (if (joinL n.f1 (heads k)).2 = true then ((joinL n.f1 (heads k)).1, nil) else (⟨5, n.f1, [], []⟩, k))
  else ((numbersL n.f1 (numsOf n)).1, nil)
def formF : Fo → Fo
  | nil => nil
  | node n k s => node (form1 n (formF k)).1 (form1 n (formF k)).2 (formF s)
end Go.Proofs.YtpkjiplgpgbheaaGreatDoor.Sp
