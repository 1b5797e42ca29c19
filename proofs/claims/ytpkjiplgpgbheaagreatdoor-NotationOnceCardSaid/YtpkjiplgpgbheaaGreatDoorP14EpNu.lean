/- Rows of numbers as texts, as plain mathematics: pieces, one number, rows. -/
import Derived.Test.YtpkjiplgpgbheaaGreatDoorP14EpDe
import Derived.Lib.Replace
import Derived.Lib.CountLaws
import Derived.Lib.Join
set_option linter.unusedVariables false
set_option linter.unusedSimpArgs false
set_option linter.unusedSectionVars false
namespace Go.Proofs.YtpkjiplgpgbheaaGreatDoor.Nu
set_option linter.unusedVariables false
open Go.RowKit Go.Proofs.YtpkjiplgpgbheaaGreatDoor.Ba  Go.Proofs.YtpkjiplgpgbheaaGreatDoor.Dm Go.Proofs.YtpkjiplgpgbheaaGreatDoor.Ba Go.Proofs.YtpkjiplgpgbheaaGreatDoor.De Go.Lib

/-! ### Replacing once -/
theorem replace_hit {s old new : List UInt8} {i : Nat} (hne : (old == new) = false) (ho : old ≠ []) (h : index s old = i) : replace s old new 1 = s.take i ++ new ++ s.drop (i + old.length) := by
  have hc := count_hit ho h
  have hn : replaceNum s old 1 = 1 := by
    unfold replaceNum
    rw [if_neg (by omega)]
    rfl
  unfold replace
  rw [hne, hn, if_neg (by decide), show (1 : Nat) = 0 + 1 from rfl, replaceK_hit old new 0 s i h]
  rfl
theorem replace_miss {s old new : List UInt8} (hne : (old == new) = false) (h : index s old = -1) : replace s old new 1 = s := by
  have hc := count_miss h
  have hn : replaceNum s old 1 = 0 := by
    unfold replaceNum
    rw [hc, if_pos (by right; decide)]
  unfold replace
  rw [hne, hn, if_neg (by decide)]
  rfl
theorem numL_of_itoa (n : Int) : replace (itoa n) [45] [194, 175] 1 = numL n := by
  unfold itoa numL
  by_cases h : n < 0
  · rw [if_pos h, if_pos h, replace_hit (i := 0) (by decide) (by simp) (by rw [index_cons]; simp)]
    simp
  · rw [if_neg h, if_neg h]
    have e : n.natAbs = n.toNat := by omega
    rw [e]
    refine replace_miss (by decide) (Dm.index_none fun k => ?_)
    have := (decDigits_dig _ _ k).1
    exact absurd this (by decide)
/-! ### Pieces -/
def digE (c : UInt8) : Bool := (decide (48 ≤ c.toNat) && decide (c.toNat ≤ 57)) || (c == 69)
/-- How many bytes the pieces of a number have that stand first. -/
def pieces : List UInt8 → Nat
  | [] => 0
  | [c] => if digE c = true then 1 else 0
  | c :: d :: l => if digE c = true then 1 + pieces (d :: l) else if c = 194 ∧ d = 175 then 2 + pieces l else 0
theorem pieces_dig {c : UInt8} (h : digE c = true) : ∀ (l : List UInt8), pieces (c :: l) = 1 + pieces l
  | [] => by simp [pieces, h]
  | d :: l => by rw [pieces, if_pos h]
theorem pieces_minus (l : List UInt8) : pieces (194 :: 175 :: l) = 2 + pieces l := by rw [pieces, if_neg (by decide), if_pos ⟨rfl, rfl⟩]
theorem pieces_stop {c : UInt8} (h : digE c = false) {l : List UInt8} (hm : ¬ (c = 194 ∧ l.head? = some 175)) : pieces (c :: l) = 0 := by
  cases l with
  | nil => rw [pieces, if_neg (by rw [h]; decide)]
  | cons d l => rw [pieces, if_neg (by rw [h]; decide), if_neg (fun k => hm ⟨k.1, by simp [k.2]⟩)]
theorem pieces_cases (P : List UInt8 → Prop) (h0 : P []) (h1 : ∀ c l, digE c = true → P l → P (c :: l)) (h2 : ∀ l, P l → P (194 :: 175 :: l))
    (h3 : ∀ c l, digE c = false → ¬ (c = 194 ∧ l.head? = some 175) → P (c :: l)) : ∀ (k : Nat) (l : List UInt8), l.length ≤ k → P l
  | _, [], _ => h0
  | 0, _ :: _, h => by simp at h
  | k + 1, c :: l, h => by
    have hl : l.length ≤ k := by simpa using h
    cases hc : digE c with
    | true => exact h1 c l hc (pieces_cases P h0 h1 h2 h3 k l hl)
    | false =>
      by_cases hm : c = 194 ∧ l.head? = some 175
      · obtain ⟨rfl, h5⟩ := hm
        cases l with
        | nil => cases h5
        | cons d l =>
          obtain rfl : d = 175 := by simpa using h5
          exact h2 l (pieces_cases P h0 h1 h2 h3 k l (by simp at hl; omega))
      · exact h3 c l hc hm
theorem pieces_ind {P : List UInt8 → Prop} (l : List UInt8) (h0 : P []) (h1 : ∀ c l, digE c = true → P l → P (c :: l)) (h2 : ∀ l, P l → P (194 :: 175 :: l))
    (h3 : ∀ c l, digE c = false → ¬ (c = 194 ∧ l.head? = some 175) → P (c :: l)) : P l := pieces_cases P h0 h1 h2 h3 l.length l (Nat.le_refl _)
theorem pieces_le (l : List UInt8) : pieces l ≤ l.length := by
  refine pieces_ind (P := fun l => pieces l ≤ l.length) l (Nat.le_refl _) ?_ ?_ ?_
  · intro c l h ih
    rw [pieces_dig h, List.length_cons]
    omega
  · intro l ih
    rw [pieces_minus]
    simp only [List.length_cons]
    omega
  · intro c l h hm
    rw [pieces_stop h hm]
    exact Nat.zero_le _
/-! ### One number -/
def repM (s : List UInt8) : List UInt8 := replace s [194, 175] [45] 1
def readN (s : List UInt8) : Int × Int × Bool :=
  if (parseD s).2.2 = true then ((parseD s).1, (parseD s).2.1, true)
  else ((normD (atoiVal (repM s)) 0).1, (normD (atoiVal (repM s)) 0).2.1, atoiOk (repM s) && decide (numL (atoiVal (repM s)) = s))
theorem readN_true {s : List UInt8} {m e : Int} (h : readN s = (m, e, true)) :
    isRight m e ∧ I m ∧ (textL m e = s ∨ ((parseD s).2.2 = false ∧ ∃ n, I n ∧ numL n = s ∧ normD n 0 = (m, e, true) ∧ n = m * 10 ^ e.toNat ∧ 0 ≤ e ∧ e ≤ 18)) := by
  unfold readN at h
  cases hp : (parseD s).2.2 with
  | true =>
    rw [if_pos hp] at h
    rcases hq : parseD s with ⟨m', e', b⟩
    rw [hq] at h hp
    obtain rfl : b = true := hp
    simp only [Prod.mk.injEq, and_true] at h
    obtain ⟨rfl, rfl⟩ := h
    obtain ⟨hr, ht, im, ie⟩ := parse_true hq
    exact ⟨hr, im, .inl ht⟩
  | false =>
    rw [if_neg (by rw [hp]; decide)] at h
    simp only [Prod.mk.injEq, Bool.and_eq_true, decide_eq_true_eq] at h
    obtain ⟨h1, h2, h3, h4⟩ := h
    have hI := atoiVal_I (repM s)
    generalize atoiVal (repM s) = n at *
    obtain ⟨a, b, hN, hr, hv, b0, b1⟩ := of_val n hI.1 hI.2
    rw [hN] at h1 h2
    simp only at h1 h2
    subst h1 h2
    refine ⟨hr, ?_, .inr ⟨rfl, n, hI, h4, hN, hv, b0, b1⟩⟩
    have hp := pow_ge b.toNat
    generalize (10 : Int) ^ b.toNat = p at hv hp
    unfold I at hI ⊢
    rcases Int.le_total 0 a with k | k
    · have : a * 1 ≤ a * p := Int.mul_le_mul_of_nonneg_left hp k
      omega
    · have : a * p ≤ a * 1 := Int.mul_le_mul_of_nonpos_left k hp
      omega
theorem readN_nil : (readN []).2.2 = false := by decide

/-! ### Rows -/
def goesOn (b : List UInt8) : Bool := (b.head? == some 32) && !(pieces (b.drop 1) == 0)
def readL (s : List UInt8) : Option (List (Int × Int) × List UInt8) :=
  if (readN (s.take (pieces s))).2.2 = true then
    if h : goesOn (s.drop (pieces s)) = true then (readL ((s.drop (pieces s)).drop 1)).map fun q => (((readN (s.take (pieces s))).1, (readN (s.take (pieces s))).2.1) :: q.1, q.2)
    else some ([((readN (s.take (pieces s))).1, (readN (s.take (pieces s))).2.1)], s.drop (pieces s))
  else none
termination_by s.length
decreasing_by
  unfold goesOn at h
  have h2 : (s.drop (pieces s)).length ≤ s.length := by rw [List.length_drop]; omega
  cases hd : s.drop (pieces s) with
  | nil => rw [hd] at h; simp at h
  | cons c l =>
    rw [hd] at h2
    simp at h2 ⊢
    omega
theorem readL_none {s : List UInt8} (h : (readN (s.take (pieces s))).2.2 = false) : readL s = none := by rw [readL, if_neg (by rw [h]; decide)]
theorem readL_stop {s : List UInt8} {m e : Int} (h : readN (s.take (pieces s)) = (m, e, true)) (hg : goesOn (s.drop (pieces s)) = false) : readL s = some ([(m, e)], s.drop (pieces s)) := by
  rw [readL, if_pos (by rw [h]), dif_neg (by rw [hg]; decide), h]
theorem readL_go {s : List UInt8} {m e : Int} (h : readN (s.take (pieces s)) = (m, e, true)) (hg : goesOn (s.drop (pieces s)) = true) : readL s = (readL ((s.drop (pieces s)).drop 1)).map fun q => ((m, e) :: q.1, q.2) := by
  rw [readL, if_pos (by rw [h]), dif_pos hg, h]
theorem readN_or (t : List UInt8) : (readN t).2.2 = false ∨ ∃ m e, readN t = (m, e, true) := by
  rcases h : readN t with ⟨m, e, b⟩
  cases b with
  | false => exact .inl rfl
  | true => exact .inr ⟨m, e, rfl⟩
theorem goesOn_cons {b : List UInt8} (h : goesOn b = true) : ∃ l, b = 32 :: l ∧ pieces l ≠ 0 := by
  unfold goesOn at h
  cases b with
  | nil => simp at h
  | cons c l =>
    simp at h
    obtain ⟨rfl, h⟩ := h
    exact ⟨l, rfl, h⟩
theorem rest_lt {s l : List UInt8} {c : UInt8} (h : s.drop (pieces s) = c :: l) : l.length < s.length := by
  have := congrArg List.length h
  rw [List.length_drop, List.length_cons] at this
  omega
/-- What is read: right numbers, at least one; what is left is less, and its end. -/
theorem readL_spec : ∀ (k : Nat) (s : List UInt8), s.length ≤ k → ∀ a b, readL s = some (a, b) → a ≠ [] ∧ b <:+ s ∧ b.length < s.length ∧ ∀ x ∈ a, isRight x.1 x.2 ∧ I x.1 := by
  intro k
  induction k with
  | zero =>
    intro s hs a b h
    obtain rfl : s = [] := List.eq_nil_of_length_eq_zero (by omega)
    rw [readL_none (by exact readN_nil)] at h
    cases h
  | succ k ih =>
    intro s hs a b h
    rcases readN_or (s.take (pieces s)) with h1 | ⟨m, e, h1⟩
    · rw [readL_none h1] at h
      cases h
    · obtain ⟨hr, im, _⟩ := readN_true h1
      have hpos : pieces s ≠ 0 := by
        intro k0
        rw [k0, List.take_zero] at h1
        have := readN_nil
        rw [h1] at this
        cases this
      cases hg : goesOn (s.drop (pieces s)) with
      | false =>
        rw [readL_stop h1 hg] at h
        simp only [Option.some.injEq, Prod.mk.injEq] at h
        obtain ⟨rfl, rfl⟩ := h
        have hl := pieces_le s
        refine ⟨by simp, List.drop_suffix _ _, by rw [List.length_drop]; omega, ?_⟩
        intro x hx
        rw [List.mem_singleton] at hx
        subst hx
        exact ⟨hr, im⟩
      | true =>
        rw [readL_go h1 hg] at h
        obtain ⟨l, hl, hp⟩ := goesOn_cons hg
        have hlt := rest_lt hl
        rw [hl, List.drop_one, List.tail_cons] at h
        rcases hq : readL l with _ | ⟨a', b'⟩
        · rw [hq] at h; cases h
        · rw [hq] at h
          simp only [Option.map_some, Option.some.injEq, Prod.mk.injEq] at h
          obtain ⟨rfl, rfl⟩ := h
          obtain ⟨_, h5, h6, h7⟩ := ih l (by omega) a' b' hq
          refine ⟨by simp, ?_, by omega, ?_⟩
          · refine h5.trans ?_
            have : l <:+ s.drop (pieces s) := by rw [hl]; exact List.suffix_cons _ _
            exact this.trans (List.drop_suffix _ _)
          · intro x hx
            rcases List.mem_cons.1 hx with rfl | hx
            · exact ⟨hr, im⟩
            · exact h7 x hx
/-! ### Rows that were written -/
def Good (t : List UInt8) (x : Int × Int) : Prop := pieces t = t.length ∧ readN t = (x.1, x.2, true)
theorem join_cons2 (t u : List UInt8) (ts : List (List UInt8)) : join (t :: u :: ts) [32] = t ++ 32 :: join (u :: ts) [32] := by
  unfold join
  simp [List.intercalate]
theorem join_one (t : List UInt8) : join [t] [32] = t := by
  unfold join
  simp [List.intercalate]
/-! ### The document's one number -/
def stripR : List UInt8 → Nat → List UInt8 × Nat
  | [], n => ([], n)
  | [c], n => ([c], n)
  | c :: d :: l, n => if c = 48 then stripR (d :: l) (n + 1) else (c :: d :: l, n)
def stripD (s : List UInt8) : List UInt8 := (stripR s.reverse 0).1.reverse
def stripN (s : List UInt8) : Nat := (stripR s.reverse 0).2
def oneC (s : List UInt8) : Prop := (parseD (stripD s)).2.2 = true ∧ (parseD (stripD s)).2.1 = 0 ∧ stripN s ≤ 18 ∧ (whole (parseD (stripD s)).1 (stripN s : Int)).2 = true ∧ numL (whole (parseD (stripD s)).1 (stripN s : Int)).1 = s
instance (s : List UInt8) : Decidable (oneC s) := by unfold oneC; infer_instance
theorem whole_I {m e : Int} (h : (whole m e).2 = true) : I (whole m e).1 := by
  unfold whole at h ⊢
  split
  · rename_i k
    exact ⟨k.2.2.2.1, k.2.2.2.2⟩
  · exact ⟨by decide, by decide⟩
end Go.Proofs.YtpkjiplgpgbheaaGreatDoor.Nu
