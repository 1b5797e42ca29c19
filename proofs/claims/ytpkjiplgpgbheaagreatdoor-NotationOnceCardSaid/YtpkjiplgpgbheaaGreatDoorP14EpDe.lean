/- What decimals are, as plain mathematics. -/
import Derived.Test.YtpkjiplgpgbheaaGreatDoorP14EpDm
import Derived.Test.YtpkjiplgpgbheaaGreatDoorP14EpBa
set_option linter.unusedVariables false
set_option linter.unusedSimpArgs false
set_option linter.unusedSectionVars false
namespace Go.Proofs.YtpkjiplgpgbheaaGreatDoor.De
open Go.RowKit Go.Proofs.YtpkjiplgpgbheaaGreatDoor.Dm Go.Proofs.YtpkjiplgpgbheaaGreatDoor.Ba Go.Lib
def atoiVal (l : List UInt8) : Int := match Lib.atoiAll l with
  | .ok v => v
  | .syntax => 0
  | .range => Lib.atoiSat l
def atoiOk (l : List UInt8) : Bool := match Lib.atoiAll l with
  | .ok _ => true
  | _ => false
def readArg (l : List UInt8) : List UInt8 := if Lib.hasPrefix l [194, 175] then 45 :: Lib.trimPrefix l [194, 175] else l
theorem pow_ge (d : Nat) : (1 : Int) ≤ 10 ^ d := by
  have := pow10_pos d
  have e : (10 : Int) ^ d = ((10 ^ d : Nat) : Int) := by rw [Int.natCast_pow]; rfl
  omega
theorem not_I_mul {n : Int} (h : ¬ I (n * 10)) (d : Nat) : ¬ I (n * 10 ^ (d + 1)) := by
  intro k
  rw [Int.pow_succ, Int.mul_comm (10 ^ d), ← Int.mul_assoc] at k
  have hp := pow_ge d
  generalize (10 : Int) ^ d = p at hp k
  unfold I at h k
  rcases Int.le_total 0 (n * 10) with h1 | h1
  · have : n * 10 * 1 ≤ n * 10 * p := Int.mul_le_mul_of_nonneg_left hp h1
    omega
  · have : n * 10 * p ≤ n * 10 * 1 := Int.mul_le_mul_of_nonpos_left h1 hp
    omega
theorem over_ten {n : Int} (hn : I n) : (wrap64 (Int.tdiv (wrap64 (n * 10)) 10) = n) ↔ I (n * 10) := by
  constructor
  · intro h
    have h1 : I (Int.tdiv (wrap64 (n * 10)) 10) ∧ (Int.tdiv (wrap64 (n * 10)) 10).natAbs ≤ 922337203685477580 := by
      have h2 := wrap_I (n * 10)
      have h3 : (Int.tdiv (wrap64 (n * 10)) 10).natAbs = (wrap64 (n * 10)).natAbs / 10 := by rw [Int.natAbs_tdiv]; rfl
      generalize Int.tdiv (wrap64 (n * 10)) 10 = q at h3 ⊢
      unfold I at h2 ⊢
      omega
    rw [wrapI h1.1] at h
    rw [h] at h1
    unfold I
    omega
  · intro h
    rw [wrapI h, Int.mul_tdiv_cancel _ (by decide), wrapI hn]
theorem itoa_trim (n : Int) : trimPrefix (itoa n) [45] = decDigits n.natAbs := by
  unfold trimPrefix itoa
  by_cases h : n < 0
  · rw [if_pos h]
    simp [hasPrefix]
  · rw [if_neg h]
    have e : n.natAbs = n.toNat := by omega
    rw [e]
    cases hd : decDigits n.toNat with
    | nil => exact absurd hd (decDigits_ne_nil _)
    | cons c r =>
      have hc := (decDigits_dig n.toNat c (by rw [hd]; exact List.mem_cons_self)).1
      have h2 : ¬ ((45 : UInt8) = c) := fun k => by subst k; exact absurd hc (by decide)
      simp [hasPrefix, h2]
theorem natAbs_lt {n : Int} (h : I n) : n.natAbs < 10 ^ 19 := by
  have : (10 : Nat) ^ 19 = 10000000000000000000 := by decide
  unfold I at h
  omega
theorem digits_len {n : Int} (h : I n) : (decDigits n.natAbs).length ≤ 19 := by
  rw [decDigits_length]
  exact nDigits_le (by decide) (natAbs_lt h)
theorem numL_len {n : Int} (h : I n) : (numL n).length ≤ 21 := by
  have := digits_len h
  unfold numL
  split <;> simp <;> omega
theorem textL_len {m e : Int} (im : I m) (ie : I e) : (textL m e).length ≤ 43 := by
  have l1 := numL_len im
  have l2 := numL_len ie
  unfold textL
  repeat' split
  · omega
  · simp; omega
  · simp
theorem atoi_I {l : List UInt8} {v : Int} (h : atoiAll l = .ok v) : I v := by
  unfold atoiAll at h
  split at h
  · cases h
  · dsimp only at h
    split at h
    · cases h
    · cases h
    · split at h
      · cases h
      · split at h
        · cases h
        · injection h with h
          unfold I
          split at h <;> omega
theorem atoiVal_I (l : List UInt8) : I (atoiVal l) := by
  unfold atoiVal
  cases h : atoiAll l with
  | ok v => exact atoi_I h
  | «syntax» => exact (show I 0 from ⟨by decide, by decide⟩)
  | range =>
    simp only
    unfold atoiSat
    split <;> exact ⟨by decide, by decide⟩
def rd1 (l : List UInt8) : Int := atoiVal (readArg l)
def parseD (l : List UInt8) : Int × Int × Bool :=
  if l = [] then (0, 0, false) else if textL (rd1 (cut l [69]).1) (rd1 (cut l [69]).2.1) = l then (rd1 (cut l [69]).1, rd1 (cut l [69]).2.1, true) else (0, 0, false)
theorem cut_le (l : List UInt8) : (cut l [69]).1.length ≤ l.length ∧ (cut l [69]).2.1.length ≤ l.length := by
  unfold cut
  split
  · simp only [List.length_take, List.length_drop]
    omega
  · simp
theorem textL_nil {m e : Int} : textL m e = [] ↔ ¬ isRight m e := by
  unfold textL
  split
  · rename_i h
    constructor
    · intro k
      split at k
      · exact absurd k (numL_ne_nil _)
      · simp at k
    · intro k; exact absurd h k
  · rename_i h
    simp [h]
theorem isRight_I {m e : Int} (h : isRight m e) : I e := by
  unfold I
  rcases h with ⟨_, rfl⟩ | ⟨_, _, h2, h3⟩ <;> omega
theorem parse_true {l : List UInt8} {m e : Int} (h : parseD l = (m, e, true)) : isRight m e ∧ textL m e = l ∧ I m ∧ I e := by
  unfold parseD at h
  split at h
  · simp at h
  · rename_i hn
    split at h
    · rename_i ht
      simp only [Prod.mk.injEq, and_true] at h
      obtain ⟨rfl, rfl⟩ := h
      refine ⟨?_, ht, atoiVal_I _, atoiVal_I _⟩
      rcases Decidable.em (isRight (rd1 (cut l [69]).1) (rd1 (cut l [69]).2.1)) with k | k
      · exact k
      · exact absurd (ht.symm.trans (textL_nil.2 k)) hn
    · simp at h
end Go.Proofs.YtpkjiplgpgbheaaGreatDoor.De
