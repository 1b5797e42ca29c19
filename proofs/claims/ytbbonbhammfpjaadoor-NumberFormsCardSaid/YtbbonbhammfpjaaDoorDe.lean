/- What the program's functions on decimals compute, as plain mathematics. -/
import Derived.Test.YtbbonbhammfpjaaDoorAll2
import Derived.Test.YtbbonbhammfpjaaDoorAll3
import Derived.Test.YtbbonbhammfpjaaDoorAll4
import Derived.Test.YtbbonbhammfpjaaDoorAll3
import Derived.Test.YtbbonbhammfpjaaDoorDm
import Derived.Test.YtbbonbhammfpjaaDoorBa
namespace Go.Proofs.YtbbonbhammfpjaaDoor.De
open Go.RowKit Go.Proofs.YtbbonbhammfpjaaDoorW.PrintWords Go.Proofs.YtbbonbhammfpjaaDoor.All Go.Proofs.YtbbonbhammfpjaaDoor.Dm Go.Proofs.YtbbonbhammfpjaaDoor.Ba Go.Lib

/-! ### Norm, Right, Of, Whole -/
theorem norm_loop (m e : Int) (hm : m ≠ 0) (im : I m) (ie : I e) :
    Ev (fun k => decimal_Norm.l0 k m e) (if (strip m e).2 < -32768 then (0, 0, false) else if (strip m e).2 > 32767 then (0, 0, false) else ((strip m e).1, (strip m e).2, true)) := by
  induction hk : m.natAbs using Nat.strongRecOn generalizing m e with
  | _ n ih =>
    subst hk
    by_cases h : Int.tmod m 10 = 0 ∧ e ≤ 32767
    · have hd := tdiv_ne hm h.1
      have hn : (Int.tdiv m 10).natAbs = m.natAbs / 10 := by rw [Int.natAbs_tdiv]; rfl
      have hlt : (Int.tdiv m 10).natAbs < m.natAbs := by
        have : m.natAbs ≠ 0 := fun k => hm (Int.natAbs_eq_zero.1 k)
        omega
      have i1 : I (Int.tdiv m 10) := by unfold I at im ⊢; omega
      have i2 : I (e + 1) := by unfold I at ie ⊢; omega
      rw [strip_go ⟨hm, h.1, h.2⟩]
      refine Ev.step (fun k => ?_) (ih _ hlt (Int.tdiv m 10) (e + 1) hd i1 i2 rfl)
      simp only [decimal_Norm.l0]
      rw [if_pos h.1, if_pos h.2, wrapI i1, wrapI i2]
    · rw [strip_stop (fun k => h k.2)]
      refine Ev.step (f := fun _ => some _) (fun k => ?_) (Ev.now _)
      simp only [decimal_Norm.l0]
      by_cases h1 : Int.tmod m 10 = 0
      · have h2 : ¬ e ≤ 32767 := fun k => h ⟨h1, k⟩
        rw [if_pos h1, if_neg h2]
        repeat' split
        all_goals rfl
      · rw [if_neg h1]
        repeat' split
        all_goals rfl
theorem norm_ev (m e : Int) (im : I m) (ie : I e) : Ev (fun k => decimal_Norm.f k m e) (normD m e) := by
  unfold decimal_Norm.f normD
  by_cases h : m = 0
  · rw [if_pos h]
    exact Ev.if_pos h (Ev.now _)
  · rw [if_neg h]
    exact Ev.if_neg h (norm_loop m e h im ie)
theorem right_ev (m e : Int) (im : I m) (ie : I e) : Ev (fun k => decimal_Right.f k m e) (rightD m e) := by
  unfold decimal_Right.f rightD
  refine Ev.bind (norm_ev m e im ie) (Ev.const fun k => ?_)
  cases h : (normD m e).2.2 <;> simp
theorem right_ev' (m e : Int) (im : I m) (ie : I e) : Ev (fun k => decimal_Right.f k m e) (decide (isRight m e)) := by
  rw [← rightD_eq]
  exact right_ev m e im ie
theorem of_ev (n : Int) (h : I n) : Ev (fun k => decimal_Of.f k n) ((normD n 0).1, (normD n 0).2.1) := by
  unfold decimal_Of.f
  exact Ev.bind (norm_ev n 0 h (by unfold I; omega)) (Ev.const fun k => rfl)
theorem pow_ge (d : Nat) : (1 : Int) ≤ 10 ^ d := by
  have := pow10_pos d
  have e : (10 : Int) ^ d = ((10 ^ d : Nat) : Int) := by rw [Int.natCast_pow]; rfl
  omega
theorem not_I_mul {n : Int} (h : ¬ I (n * 10)) (d : Nat) : ¬ I (n * 10 ^ (d + 1)) := by
  intro k
  rw [Int.pow_succ, Int.mul_comm (10 ^ d), ← Int.mul_assoc] at k
  have hp := pow_ge d
  generalize (10 : Int) ^ d = p at hp k
  unfold I at h k
  rcases Int.le_total 0 (n * 10) with h1 | h1
  · have : n * 10 * 1 ≤ n * 10 * p := Int.mul_le_mul_of_nonneg_left hp h1
    omega
  · have : n * 10 * p ≤ n * 10 * 1 := Int.mul_le_mul_of_nonpos_left h1 hp
    omega
theorem over_ten {n : Int} (hn : I n) : (wrap64 (Int.tdiv (wrap64 (n * 10)) 10) = n) ↔ I (n * 10) := by
  constructor
  · intro h
    have h1 : I (Int.tdiv (wrap64 (n * 10)) 10) ∧ (Int.tdiv (wrap64 (n * 10)) 10).natAbs ≤ 922337203685477580 := by
      have h2 := wrap_I (n * 10)
      have h3 : (Int.tdiv (wrap64 (n * 10)) 10).natAbs = (wrap64 (n * 10)).natAbs / 10 := by rw [Int.natAbs_tdiv]; rfl
      generalize Int.tdiv (wrap64 (n * 10)) 10 = q at h3 ⊢
      unfold I at h2 ⊢
      omega
    rw [wrapI h1.1] at h
    rw [h] at h1
    unfold I
    omega
  · intro h
    rw [wrapI h, Int.mul_tdiv_cancel _ (by decide), wrapI hn]
/-! ### Texts -/
theorem hasPrefix_f (s p : ByteArray) : stringslite_HasPrefix.f s p = some (hasPrefix s.data.toList p.data.toList) := by
  unfold stringslite_HasPrefix.f
  have hs := size_eq s
  have hp := size_eq p
  by_cases h : (s.size : Int) ≥ (p.size : Int)
  · rw [if_pos h, if_pos (by omega), if_pos (by omega)]
    congr 1
    rw [extract_toList, toList_eq]
    unfold hasPrefix
    simp only [Int.toNat_natCast, Nat.sub_zero, List.drop_zero]
    rw [hp]
    generalize p.data.toList = q
    generalize s.data.toList = l
    by_cases hq : q <+: l
    · rw [(List.isPrefixOf_iff_prefix).2 hq]
      rw [beq_iff_eq]
      exact (List.prefix_iff_eq_take.1 hq).symm
    · have h2 : q.isPrefixOf l = false := by
        cases hh : q.isPrefixOf l with
        | false => rfl
        | true => exact absurd (List.isPrefixOf_iff_prefix.1 hh) hq
      rw [h2]
      refine beq_eq_false_iff_ne.2 fun k => hq (List.prefix_iff_eq_take.2 k.symm)
  · rw [if_neg h]
    congr 1
    cases hh : hasPrefix s.data.toList p.data.toList with
    | false => rfl
    | true =>
      have := (List.isPrefixOf_iff_prefix.1 hh).length_le
      omega
theorem trimPrefix_f (s p : ByteArray) : strings_TrimPrefix.f s p = some (ba (trimPrefix s.data.toList p.data.toList)) := by
  unfold strings_TrimPrefix.f stringslite_TrimPrefix.f
  rw [hasPrefix_f]
  simp only [Option.bind_some]
  have hs := size_eq s
  have hp := size_eq p
  unfold trimPrefix
  cases hh : hasPrefix s.data.toList p.data.toList with
  | false => simp [ba_self]
  | true =>
    have := (List.isPrefixOf_iff_prefix.1 hh).length_le
    rw [if_pos rfl, if_pos (by omega), if_pos (by omega), if_pos rfl]
    simp only [Option.bind_some, Int.toNat_natCast]
    congr 1
    apply data_inj
    rw [extract_data, ba_data, ← hp, hs]
    rw [List.take_of_length_le (by rw [List.length_drop]; exact Nat.le_refl _)]
theorem itoa_trim (n : Int) : trimPrefix (itoa n) [45] = decDigits n.natAbs := by
  unfold trimPrefix itoa
  by_cases h : n < 0
  · rw [if_pos h]
    simp [hasPrefix]
  · rw [if_neg h]
    have e : n.natAbs = n.toNat := by omega
    rw [e]
    cases hd : decDigits n.toNat with
    | nil => exact absurd hd (decDigits_ne_nil _)
    | cons c r =>
      have hc := (decDigits_dig n.toNat c (by rw [hd]; exact List.mem_cons_self)).1
      have h2 : ¬ ((45 : UInt8) = c) := fun k => by subst k; exact absurd hc (by decide)
      simp [hasPrefix, h2]
theorem digits_f (n : Int) (h : I n) : decimal_digits.f n = some (ba (decDigits n.natAbs)) := by
  unfold decimal_digits.f strconv_Itoa.f
  rw [if_pos h.1, if_pos h.2]
  simp only [Option.bind_some]
  rw [trimPrefix_f]
  simp only [Option.bind_some]
  rw [← itoa_trim n]
theorem natAbs_lt {n : Int} (h : I n) : n.natAbs < 10 ^ 19 := by
  have : (10 : Nat) ^ 19 = 10000000000000000000 := by decide
  unfold I at h
  omega
theorem digits_len {n : Int} (h : I n) : (decDigits n.natAbs).length ≤ 19 := by
  rw [decDigits_length]
  exact nDigits_le (by decide) (natAbs_lt h)
theorem numL_len {n : Int} (h : I n) : (numL n).length ≤ 21 := by
  have := digits_len h
  unfold numL
  split <;> simp <;> omega
theorem number_f (n : Int) (h : I n) : decimal_number.f n = some (ba (numL n)) := by
  unfold decimal_number.f numL
  rw [digits_f n h]
  simp only [Option.bind_some]
  have := digits_len h
  by_cases h0 : n < 0
  · rw [if_pos h0, if_pos (by rw [ba_size]; omega), if_pos h0]
    exact congrArg some (ba_append [194, 175] _)
  · rw [if_neg h0, if_neg h0]
theorem text_ev (m e : Int) (im : I m) (ie : I e) : Ev (fun k => decimal_Text.f k m e) (ba (textL m e)) := by
  unfold decimal_Text.f textL
  refine Ev.bind (right_ev' m e im ie) ?_
  by_cases hr : isRight m e
  · rw [if_pos hr]
    refine Ev.if_pos (by simpa using hr) ?_
    rw [number_f m im, number_f e ie]
    simp only [Option.bind_some]
    by_cases h0 : e = 0
    · rw [if_pos h0, if_pos h0]
      exact Ev.now _
    · rw [if_neg h0, if_neg h0]
      refine Ev.const fun k => ?_
      have l1 := numL_len im
      have l2 := numL_len ie
      rw [if_pos (by rw [ba_size]; omega), show ba (numL m) ++ (⟨#[69]⟩ : ByteArray) = ba (numL m ++ [69]) from ba_append _ [69], if_pos (by rw [ba_size, ba_size, List.length_append]; simp; omega), ba_append, List.append_assoc]
      rfl
  · rw [if_neg hr]
    exact Ev.if_neg (by simpa using hr) (Ev.now _)
theorem textL_len {m e : Int} (im : I m) (ie : I e) : (textL m e).length ≤ 43 := by
  have l1 := numL_len im
  have l2 := numL_len ie
  unfold textL
  repeat' split
  · omega
  · simp; omega
  · simp

/-! ### Reading -/
theorem atoi_I {l : List UInt8} {v : Int} (h : atoiAll l = .ok v) : I v := by
  unfold atoiAll at h
  split at h
  · cases h
  · dsimp only at h
    split at h
    · cases h
    · cases h
    · split at h
      · cases h
      · split at h
        · cases h
        · injection h with h
          unfold I
          split at h <;> omega
theorem atoiVal_I (l : List UInt8) : I (atoiVal l) := by
  unfold atoiVal
  cases h : atoiAll l with
  | ok v => exact atoi_I h
  | «syntax» => exact (show I 0 from ⟨by decide, by decide⟩)
  | range =>
    simp only
    unfold atoiSat
    split <;> exact ⟨by decide, by decide⟩
def rd1 (l : List UInt8) : Int := atoiVal (readArg l)
theorem readArg_numL (n : Int) : readArg (numL n) = itoa n := by
  unfold readArg numL itoa trimPrefix
  by_cases h : n < 0
  · rw [if_pos h, if_pos h]
    simp [hasPrefix]
  · rw [if_neg h, if_neg h]
    have e : n.natAbs = n.toNat := by omega
    rw [e]
    cases hd : decDigits n.toNat with
    | nil => exact absurd hd (decDigits_ne_nil _)
    | cons c r =>
      have hc := (decDigits_dig n.toNat c (by rw [hd]; exact List.mem_cons_self)).2
      have h2 : ¬ ((194 : UInt8) = c) := fun k => by subst k; exact absurd hc (by decide)
      simp [hasPrefix, h2]
theorem rd1_numL (n : Int) (h : I n) : rd1 (numL n) = n := by
  unfold rd1 atoiVal
  rw [readArg_numL, atoi_itoa n h.1 h.2]
theorem rd1_nil : rd1 [] = 0 := rfl
def parseD (l : List UInt8) : Int × Int × Bool :=
  if l = [] then (0, 0, false) else if textL (rd1 (cut l [69]).1) (rd1 (cut l [69]).2.1) = l then (rd1 (cut l [69]).1, rd1 (cut l [69]).2.1, true) else (0, 0, false)
theorem cut_le (l : List UInt8) : (cut l [69]).1.length ≤ l.length ∧ (cut l [69]).2.1.length ≤ l.length := by
  unfold cut
  split
  · simp only [List.length_take, List.length_drop]
    omega
  · simp
theorem read_f (l : List UInt8) (h : l.length ≤ 140737488355328) : decimal_read.f (ba l) = some (rd1 l) := by
  unfold decimal_read.f
  rw [if_pos (by rw [ba_size]; exact h)]
  exact congrArg (fun z => some (rd1 z)) (ba_data l)
theorem cut_f (s p : ByteArray) (h : s.size < 4294967281) : strings_Cut.f s p = some (ba (cut s.data.toList p.data.toList).1, ba (cut s.data.toList p.data.toList).2.1, (cut s.data.toList p.data.toList).2.2) := by
  unfold strings_Cut.f
  rw [if_pos h]
  rfl
theorem parse_ev (s : ByteArray) (hs : s.size < 4294967281) : Ev (fun k => decimal_Parse.f k s) (parseD s.data.toList) := by
  unfold decimal_Parse.f
  have hl := cut_le s.data.toList
  rw [← size_eq] at hl
  refine Ev.bind0 (cut_f s _ hs) ?_
  refine Ev.bind0 (a := rd1 (cut s.data.toList [69]).1) (read_f _ (show (cut s.data.toList [69]).1.length ≤ _ by omega)) ?_
  refine Ev.bind0 (a := rd1 (cut s.data.toList [69]).2.1) (read_f _ (show (cut s.data.toList [69]).2.1.length ≤ _ by omega)) ?_
  unfold parseD
  rw [toList_eq]
  by_cases h0 : s.data.toList = []
  · rw [if_pos h0]
    exact Ev.if_pos h0 (Ev.now _)
  · rw [if_neg h0]
    refine Ev.if_neg h0 (Ev.bind (text_ev _ _ (atoiVal_I _) (atoiVal_I _)) ?_)
    rw [ba_toList]
    by_cases h1 : textL (rd1 (cut s.data.toList [69]).1) (rd1 (cut s.data.toList [69]).2.1) = s.data.toList
    · rw [if_pos h1, if_pos h1]
      exact Ev.now _
    · rw [if_neg h1, if_neg h1]
      exact Ev.now _
theorem cut_text {m e : Int} (h : isRight m e) (im : I m) (ie : I e) : rd1 (cut (textL m e) [69]).1 = m ∧ rd1 (cut (textL m e) [69]).2.1 = e := by
  unfold textL
  rw [if_pos h]
  by_cases h0 : e = 0
  · rw [if_pos h0, cut_none (numL_no_E m)]
    exact ⟨rd1_numL m im, by rw [rd1_nil, h0]⟩
  · rw [if_neg h0, cut_at (numL_no_E m)]
    exact ⟨rd1_numL m im, rd1_numL e ie⟩
theorem textL_nil {m e : Int} : textL m e = [] ↔ ¬ isRight m e := by
  unfold textL
  split
  · rename_i h
    constructor
    · intro k
      split at k
      · exact absurd k (numL_ne_nil _)
      · simp at k
    · intro k; exact absurd h k
  · rename_i h
    simp [h]
theorem isRight_I {m e : Int} (h : isRight m e) : I e := by
  unfold I
  rcases h with ⟨_, rfl⟩ | ⟨_, _, h2, h3⟩ <;> omega
/-- A right number's text is read as it. -/
theorem parse_text {m e : Int} (h : isRight m e) (im : I m) : parseD (textL m e) = (m, e, true) := by
  obtain ⟨a, b⟩ := cut_text h im (isRight_I h)
  unfold parseD
  rw [a, b, if_neg (fun k => textL_nil.1 k h), if_pos rfl]
/-- What is read is right, and the text is its. -/
theorem parse_true {l : List UInt8} {m e : Int} (h : parseD l = (m, e, true)) : isRight m e ∧ textL m e = l ∧ I m ∧ I e := by
  unfold parseD at h
  split at h
  · simp at h
  · rename_i hn
    split at h
    · rename_i ht
      simp only [Prod.mk.injEq, and_true] at h
      obtain ⟨rfl, rfl⟩ := h
      refine ⟨?_, ht, atoiVal_I _, atoiVal_I _⟩
      rcases Decidable.em (isRight (rd1 (cut l [69]).1) (rd1 (cut l [69]).2.1)) with k | k
      · exact k
      · exact absurd (ht.symm.trans (textL_nil.2 k)) hn
    · simp at h
theorem parse_false {l : List UInt8} (h : (parseD l).2.2 = false) : parseD l = (0, 0, false) ∧ ∀ m e, isRight m e → I m → textL m e ≠ l := by
  refine ⟨?_, fun m e hr im ht => ?_⟩
  · unfold parseD at h ⊢
    split
    · rfl
    · rename_i hn
      rw [if_neg hn] at h
      split
      · rename_i ht
        rw [if_pos ht] at h
        cases h
      · rfl
  · rw [← ht, parse_text hr im] at h
    cases h

/-! ### Order -/
theorem mag {m e : Int} (h : isRight m e) (h0 : m ≠ 0) : m.natAbs % 10 ≠ 0 ∧ -32768 ≤ e ∧ e ≤ 32767 := by
  rcases h with ⟨k, _⟩ | ⟨_, h1, h2, h3⟩
  · exact absurd k h0
  · refine ⟨fun k => h1 ?_, h2, h3⟩
    have : (Int.tmod m 10).natAbs = m.natAbs % 10 := Int.natAbs_tmod m 10
    rw [k] at this
    exact Int.natAbs_eq_zero.1 this
theorem compare_shift (a b c d : Nat) (x y : Int) (hx : (a : Int) + x = c - 32768) (hy : (b : Int) + y = d - 32768) : compareInt ((a : Int) + x) ((b : Int) + y) = compareInt (c : Int) (d : Int) := by
  rw [hx, hy]
  unfold compareInt
  have h1 : ((c : Int) - 32768 < (d : Int) - 32768) ↔ ((c : Int) < (d : Int)) := by omega
  have h2 : ((c : Int) - 32768 > (d : Int) - 32768) ↔ ((c : Int) > (d : Int)) := by omega
  simp only [h1, h2]
theorem val_pos {m e : Int} (h : 0 < m) : 0 < val m e := Int.mul_pos h (pow_scale_pos e)
theorem val_neg {m e : Int} (h : m < 0) : val m e < 0 := Int.mul_neg_of_neg_of_pos h (pow_scale_pos e)
theorem val_zero (e : Int) : val 0 e = 0 := Int.zero_mul _
theorem val_abs_pos {m e : Int} (h : 0 < m) : ((m.natAbs * 10 ^ scale e : Nat) : Int) = val m e := by
  unfold val
  rw [val_pow, Int.natCast_mul]
  congr 1
  omega
theorem val_abs_neg {m e : Int} (h : m < 0) : ((m.natAbs * 10 ^ scale e : Nat) : Int) = -val m e := by
  unfold val
  rw [val_pow, Int.natCast_mul, ← Int.neg_mul]
  congr 1
  omega
theorem clean_I {m e : Int} (h : I m) : I (clean m e).1 := by
  unfold clean
  split
  · exact h
  · exact ⟨by decide, by decide⟩
end Go.Proofs.YtbbonbhammfpjaaDoor.De
