/- Decimals as plain mathematics: digits, right forms, texts, order. Nothing of the program. -/
import Derived.Lib.ItoaNum
import Derived.Lib.AtoiAll
import Derived.Lib.Small
import Derived.Lib.Bytealg
import Derived.Lib.IndexMore
import Derived.RowKit
set_option linter.unusedVariables false
set_option linter.unusedSimpArgs false
set_option linter.unusedSectionVars false
namespace Go.Proofs.YtpkjiplgpgbheaaGreatDoor.Dm
open Go.Lib

/-! ### Powers of ten -/
theorem pow10_pos (k : Nat) : 1 ≤ 10 ^ k := Nat.one_le_pow _ _ (by decide)
theorem pow10_le {a b : Nat} (h : a ≤ b) : 10 ^ a ≤ 10 ^ b := Nat.pow_le_pow_right (by decide) h

/-! ### Rows of digits -/
def isDig (c : UInt8) : Prop := 48 ≤ c.toNat ∧ c.toNat ≤ 57
theorem toNat_dig {d : Nat} (h : d < 10) : (UInt8.ofNat (48 + d)).toNat = 48 + d := by
  simp [UInt8.toNat_ofNat]
  omega
theorem isDig_dig {d : Nat} (h : d < 10) : isDig (UInt8.ofNat (48 + d)) := by
  unfold isDig
  rw [toNat_dig h]
  omega
theorem decDigits_small {u : Nat} (h : u < 10) : decDigits u = [UInt8.ofNat (48 + u)] := by rw [decDigits, dif_pos h]
theorem decDigits_big {u : Nat} (h : ¬ u < 10) : decDigits u = decDigits (u / 10) ++ [UInt8.ofNat (48 + u % 10)] := by rw [decDigits, dif_neg h]
theorem decDigits_dig (u : Nat) : ∀ c ∈ decDigits u, isDig c := by
  induction u using Nat.strongRecOn with
  | _ u ih =>
    by_cases h : u < 10
    · rw [decDigits_small h]
      intro c hc
      rw [List.mem_singleton.1 hc]
      exact isDig_dig h
    · rw [decDigits_big h]
      intro c hc
      rcases List.mem_append.1 hc with hc | hc
      · exact ih (u / 10) (by omega) c hc
      · rw [List.mem_singleton.1 hc]
        exact isDig_dig (by omega)
theorem decDigits_ne_nil (u : Nat) : decDigits u ≠ [] := by
  by_cases h : u < 10
  · rw [decDigits_small h]; simp
  · rw [decDigits_big h]; simp
theorem pow_nDigits_le : ∀ (u : Nat), 1 ≤ u → 10 ^ (nDigits u - 1) ≤ u := by
  intro u
  induction u using Nat.strongRecOn with
  | _ u ih =>
    intro h1
    by_cases h : u < 10
    · rw [nDigits_small h]; simpa using h1
    · rw [nDigits_big h, Nat.add_sub_cancel]
      have h2 := ih (u / 10) (by omega) (by omega)
      have h3 := nDigits_pos (u / 10)
      obtain ⟨p, hp⟩ : ∃ p, nDigits (u / 10) = p + 1 := ⟨nDigits (u / 10) - 1, by omega⟩
      rw [hp, Nat.add_sub_cancel] at h2
      rw [hp, Nat.pow_succ]
      omega
theorem nDigits_le {u k : Nat} (hk : 1 ≤ k) (h : u < 10 ^ k) : nDigits u ≤ k := by
  by_cases h1 : 1 ≤ u
  · by_cases h2 : nDigits u ≤ k
    · exact h2
    · have := pow_nDigits_le u h1
      have := pow10_le (show k ≤ nDigits u - 1 by omega)
      omega
  · rw [nDigits_small (by omega)]
    exact hk
/-! ### What a number's digits and its exponent tell of its size -/
/-! ### Texts of whole numbers -/
def numL (n : Int) : List UInt8 := if n < 0 then 194 :: 175 :: decDigits n.natAbs else decDigits n.natAbs
theorem numL_ne_nil (n : Int) : numL n ≠ [] := by
  unfold numL
  split
  · simp
  · exact decDigits_ne_nil _
/-! ### Cutting at an E -/
theorem index_cons (b : UInt8) (l : List UInt8) (c : UInt8) : index (b :: l) [c] = if b = c then 0 else if index l [c] = -1 then -1 else index l [c] + 1 := by
  rw [index]
  by_cases h : b = c
  · subst h; simp
  · have : ¬ (c = b) := fun k => h k.symm
    simp [h, this]
theorem index_none {l : List UInt8} {c : UInt8} (h : c ∉ l) : index l [c] = -1 := by
  induction l with
  | nil => simp [index]
  | cons b l ih =>
    simp only [List.mem_cons, not_or] at h
    rw [index_cons, if_neg (fun k => h.1 k.symm), if_pos (ih h.2)]
/-! ### Right forms -/
def strip (m e : Int) : Int × Int := if h : m ≠ 0 ∧ Int.tmod m 10 = 0 ∧ e ≤ 32767 then strip (Int.tdiv m 10) (e + 1) else (m, e)
termination_by m.natAbs
decreasing_by
  rw [Int.natAbs_tdiv]
  have : m.natAbs ≠ 0 := fun k => h.1 (Int.natAbs_eq_zero.1 k)
  show m.natAbs / 10 < m.natAbs
  omega
def normD (m e : Int) : Int × Int × Bool :=
  if m = 0 then (0, 0, true) else if (strip m e).2 < -32768 then (0, 0, false) else if (strip m e).2 > 32767 then (0, 0, false) else ((strip m e).1, (strip m e).2, true)
def isRight (m e : Int) : Prop := (m = 0 ∧ e = 0) ∨ (m ≠ 0 ∧ Int.tmod m 10 ≠ 0 ∧ -32768 ≤ e ∧ e ≤ 32767)
instance (m e : Int) : Decidable (isRight m e) := by unfold isRight; infer_instance
theorem strip_go {m e : Int} (h : m ≠ 0 ∧ Int.tmod m 10 = 0 ∧ e ≤ 32767) : strip m e = strip (Int.tdiv m 10) (e + 1) := by rw [strip, dif_pos h]
theorem strip_stop {m e : Int} (h : ¬ (m ≠ 0 ∧ Int.tmod m 10 = 0 ∧ e ≤ 32767)) : strip m e = (m, e) := by rw [strip, dif_neg h]
theorem tdiv_ne {m : Int} (h : m ≠ 0) (h1 : Int.tmod m 10 = 0) : Int.tdiv m 10 ≠ 0 := by
  have := Int.tmod_add_mul_tdiv m 10
  intro k
  rw [k, h1] at this
  omega
theorem strip_spec (m e : Int) (hm : m ≠ 0) : (strip m e).1 ≠ 0 ∧ e ≤ (strip m e).2 ∧ m = (strip m e).1 * 10 ^ ((strip m e).2 - e).toNat ∧ (Int.tmod (strip m e).1 10 ≠ 0 ∨ 32767 < (strip m e).2) ∧ (e ≤ 32768 → (strip m e).2 ≤ 32768) ∧ (strip m e).1.natAbs ≤ m.natAbs := by
  induction hk : m.natAbs using Nat.strongRecOn generalizing m e with
  | _ k ih =>
    subst hk
    by_cases h : m ≠ 0 ∧ Int.tmod m 10 = 0 ∧ e ≤ 32767
    · rw [strip_go h]
      have hd := tdiv_ne hm h.2.1
      have hlt : (Int.tdiv m 10).natAbs < m.natAbs := by
        rw [Int.natAbs_tdiv]
        have : m.natAbs ≠ 0 := fun k => hm (Int.natAbs_eq_zero.1 k)
        show m.natAbs / 10 < m.natAbs
        omega
      obtain ⟨a1, a2, a3, a4, a5, a6⟩ := ih _ hlt (Int.tdiv m 10) (e + 1) hd rfl
      refine ⟨a1, by omega, ?_, a4, fun h5 => a5 (by omega), by omega⟩
      have h6 := Int.tmod_add_mul_tdiv m 10
      rw [h.2.1, Int.zero_add] at h6
      have h7 : ((strip (Int.tdiv m 10) (e + 1)).2 - e).toNat = ((strip (Int.tdiv m 10) (e + 1)).2 - (e + 1)).toNat + 1 := by omega
      rw [h7, Int.pow_succ, ← Int.mul_assoc, ← a3]
      omega
    · rw [strip_stop h]
      refine ⟨hm, Int.le_refl _, by simp, ?_, fun h => h, Nat.le_refl _⟩
      by_cases h1 : Int.tmod m 10 = 0
      · right
        have : ¬ (e ≤ 32767) := fun k => h ⟨hm, h1, k⟩
        simp only
        omega
      · exact .inl h1
theorem normD_right {m e m' e' : Int} (h : normD m e = (m', e', true)) : isRight m' e' := by
  unfold normD at h
  by_cases h0 : m = 0
  · rw [if_pos h0] at h
    simp only [Prod.mk.injEq, and_true] at h
    exact .inl ⟨h.1.symm, h.2.symm⟩
  · rw [if_neg h0] at h
    obtain ⟨a1, a2, a3, a4, a5, a6⟩ := strip_spec m e h0
    by_cases h1 : (strip m e).2 < -32768
    · rw [if_pos h1] at h; simp at h
    · rw [if_neg h1] at h
      by_cases h2 : (strip m e).2 > 32767
      · rw [if_pos h2] at h; simp at h
      · rw [if_neg h2] at h
        simp only [Prod.mk.injEq, and_true] at h
        obtain ⟨rfl, rfl⟩ := h
        exact .inr ⟨a1, by omega, by omega, by omega⟩
theorem normD_of_right {m e : Int} (h : isRight m e) : normD m e = (m, e, true) := by
  unfold normD
  rcases h with ⟨rfl, rfl⟩ | ⟨h0, h1, h2, h3⟩
  · rfl
  · rw [if_neg h0, strip_stop (fun k => h1 k.2.1), if_neg (by simp only; omega), if_neg (by simp only; omega)]
theorem normD_false {m e : Int} {x : Int × Int × Bool} (h : normD m e = x) (hx : x.2.2 = false) : x = (0, 0, false) := by
  unfold normD at h
  split at h
  · subst h; cases hx
  · split at h
    · exact h.symm
    · split at h
      · exact h.symm
      · subst h; cases hx
def rightD (m e : Int) : Bool := (normD m e).2.2 && ((normD m e).1 == m && ((normD m e).2.1 == e))
theorem rightD_iff (m e : Int) : rightD m e = true ↔ isRight m e := by
  constructor
  · intro h
    unfold rightD at h
    rcases hn : normD m e with ⟨m', e', b⟩
    rw [hn] at h
    simp only [Bool.and_eq_true, beq_iff_eq] at h
    obtain ⟨rfl, rfl, rfl⟩ := h
    exact normD_right hn
  · intro h
    unfold rightD
    rw [normD_of_right h]
    simp
theorem rightD_eq (m e : Int) : rightD m e = decide (isRight m e) := by
  by_cases h : isRight m e
  · rw [(rightD_iff m e).2 h, decide_eq_true h]
  · rw [decide_eq_false h]
    cases hr : rightD m e with
    | false => rfl
    | true => exact absurd ((rightD_iff m e).1 hr) h
/-! ### Values, scaled -/
def scale (e : Int) : Nat := (e + 32768).toNat
def val (m e : Int) : Int := m * 10 ^ scale e
def whole (m e : Int) : Int × Bool :=
  if isRight m e ∧ 0 ≤ e ∧ e ≤ 18 ∧ -9223372036854775808 ≤ m * 10 ^ e.toNat ∧ m * 10 ^ e.toNat ≤ 9223372036854775807 then (m * 10 ^ e.toNat, true) else (0, false)
def textL (m e : Int) : List UInt8 := if isRight m e then (if e = 0 then numL m else numL m ++ 69 :: numL e) else []
theorem isRight_zero : isRight 0 0 := .inl ⟨rfl, rfl⟩
/-- A whole number's right form has its value. -/
theorem of_val (n : Int) (h0 : -9223372036854775808 ≤ n) (h1 : n ≤ 9223372036854775807) : ∃ m e, normD n 0 = (m, e, true) ∧ isRight m e ∧ n = m * 10 ^ e.toNat ∧ 0 ≤ e ∧ e ≤ 18 := by
  by_cases hn : n = 0
  · subst hn
    exact ⟨0, 0, rfl, isRight_zero, rfl, by decide, by decide⟩
  · obtain ⟨a1, a2, a3, a4, a5, a6⟩ := strip_spec n 0 hn
    have he : (strip n 0).2 ≤ 18 := by
      by_cases h : (strip n 0).2 ≤ 18
      · exact h
      · have h2 : 10 ^ 19 ≤ 10 ^ ((strip n 0).2 - 0).toNat := pow10_le (by omega)
        have h3 : n.natAbs = (strip n 0).1.natAbs * 10 ^ ((strip n 0).2 - 0).toNat := by
          conv => lhs; rw [a3]
          rw [Int.natAbs_mul, Int.natAbs_pow]
          rfl
        have h4 : 1 ≤ (strip n 0).1.natAbs := by
          have : (strip n 0).1.natAbs ≠ 0 := fun k => a1 (Int.natAbs_eq_zero.1 k)
          omega
        have h5 : 1 * 10 ^ 19 ≤ (strip n 0).1.natAbs * 10 ^ ((strip n 0).2 - 0).toNat := Nat.mul_le_mul h4 h2
        have h6 : (10 : Nat) ^ 19 = 10000000000000000000 := by decide
        omega
    have hD : normD n 0 = ((strip n 0).1, (strip n 0).2, true) := by
      unfold normD
      rw [if_neg hn, if_neg (by omega), if_neg (by omega)]
    exact ⟨_, _, hD, normD_right hD, by rw [Int.sub_zero] at a3; exact a3, a2, he⟩
end Go.Proofs.YtpkjiplgpgbheaaGreatDoor.Dm
