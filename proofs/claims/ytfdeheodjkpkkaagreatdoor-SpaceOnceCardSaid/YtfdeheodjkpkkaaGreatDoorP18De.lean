/- What the program's functions on decimals compute, as plain mathematics. -/
import Derived.Test.YtfdeheodjkpkkaaGreatDoorP18All2
import Derived.Test.YtfdeheodjkpkkaaGreatDoorP18All4
import Derived.Test.YtfdeheodjkpkkaaGreatDoorP18All5
import Derived.Test.YtfdeheodjkpkkaaGreatDoorP18Dm
import Derived.Test.YtfdeheodjkpkkaaGreatDoorP18Ba
set_option linter.unusedVariables false
set_option linter.unusedSimpArgs false
set_option linter.unusedSectionVars false
namespace Go.Proofs.YtfdeheodjkpkkaaGreatDoor.De
open Go.RowKit Go.Proofs.YtfdeheodjkpkkaaGreatDoorW.PrintWords Go.Proofs.YtfdeheodjkpkkaaGreatDoor.All Go.Proofs.YtfdeheodjkpkkaaGreatDoor.Dm Go.Proofs.YtfdeheodjkpkkaaGreatDoor.Ba Go.Lib

/-! ### Norm, Right, Of, Whole -/
theorem norm_loop (m e : Int) (hm : m ≠ 0) (im : I m) (ie : I e) :
    Ev (fun k => decimal_Norm.l0 k m e) (if (strip m e).2 < -32768 then (0, 0, false) else if (strip m e).2 > 32767 then (0, 0, false) else ((strip m e).1, (strip m e).2, true)) := by
  induction hk : m.natAbs using Nat.strongRecOn generalizing m e with
  | _ n ih =>
    subst hk
    by_cases h : Int.tmod m 10 = 0 ∧ e ≤ 32767
    · have hd := tdiv_ne hm h.1
      have hn : (Int.tdiv m 10).natAbs = m.natAbs / 10 := by rw [Int.natAbs_tdiv]; rfl
      have hlt : (Int.tdiv m 10).natAbs < m.natAbs := by
        have : m.natAbs ≠ 0 := fun k => hm (Int.natAbs_eq_zero.1 k)
        omega
      have i1 : I (Int.tdiv m 10) := by unfold I at im ⊢; omega
      have i2 : I (e + 1) := by unfold I at ie ⊢; omega
      rw [strip_go ⟨hm, h.1, h.2⟩]
      refine Ev.step (fun k => ?_) (ih _ hlt (Int.tdiv m 10) (e + 1) hd i1 i2 rfl)
      simp only [decimal_Norm.l0]
      rw [if_pos h.1, if_pos h.2, wrapI i1, wrapI i2]
    · rw [strip_stop (fun k => h k.2)]
      refine Ev.step (f := fun _ => some _) (fun k => ?_) (Ev.now _)
      simp only [decimal_Norm.l0]
      by_cases h1 : Int.tmod m 10 = 0
      · have h2 : ¬ e ≤ 32767 := fun k => h ⟨h1, k⟩
        rw [if_pos h1, if_neg h2]
        repeat' split
        all_goals rfl
      · rw [if_neg h1]
        repeat' split
        all_goals rfl
theorem norm_ev (m e : Int) (im : I m) (ie : I e) : Ev (fun k => decimal_Norm.f k m e) (normD m e) := by
  unfold decimal_Norm.f normD
  by_cases h : m = 0
  · rw [if_pos h]
    exact Ev.if_pos h (Ev.now _)
  · rw [if_neg h]
    exact Ev.if_neg h (norm_loop m e h im ie)
theorem right_ev (m e : Int) (im : I m) (ie : I e) : Ev (fun k => decimal_Right.f k m e) (rightD m e) := by
  unfold decimal_Right.f rightD
  refine Ev.bind (norm_ev m e im ie) (Ev.const fun k => ?_)
  cases h : (normD m e).2.2 <;> simp
theorem right_ev' (m e : Int) (im : I m) (ie : I e) : Ev (fun k => decimal_Right.f k m e) (decide (isRight m e)) := by
  rw [← rightD_eq]
  exact right_ev m e im ie
theorem of_ev (n : Int) (h : I n) : Ev (fun k => decimal_Of.f k n) ((normD n 0).1, (normD n 0).2.1) := by
  unfold decimal_Of.f
  exact Ev.bind (norm_ev n 0 h (by unfold I; omega)) (Ev.const fun k => rfl)
theorem pow_ge (d : Nat) : (1 : Int) ≤ 10 ^ d := by
  have := pow10_pos d
  have e : (10 : Int) ^ d = ((10 ^ d : Nat) : Int) := by rw [Int.natCast_pow]; rfl
  omega
theorem not_I_mul {n : Int} (h : ¬ I (n * 10)) (d : Nat) : ¬ I (n * 10 ^ (d + 1)) := by
  intro k
  rw [Int.pow_succ, Int.mul_comm (10 ^ d), ← Int.mul_assoc] at k
  have hp := pow_ge d
  generalize (10 : Int) ^ d = p at hp k
  unfold I at h k
  rcases Int.le_total 0 (n * 10) with h1 | h1
  · have : n * 10 * 1 ≤ n * 10 * p := Int.mul_le_mul_of_nonneg_left hp h1
    omega
  · have : n * 10 * p ≤ n * 10 * 1 := Int.mul_le_mul_of_nonpos_left h1 hp
    omega
theorem over_ten {n : Int} (hn : I n) : (wrap64 (Int.tdiv (wrap64 (n * 10)) 10) = n) ↔ I (n * 10) := by
  constructor
  · intro h
    have h1 : I (Int.tdiv (wrap64 (n * 10)) 10) ∧ (Int.tdiv (wrap64 (n * 10)) 10).natAbs ≤ 922337203685477580 := by
      have h2 := wrap_I (n * 10)
      have h3 : (Int.tdiv (wrap64 (n * 10)) 10).natAbs = (wrap64 (n * 10)).natAbs / 10 := by rw [Int.natAbs_tdiv]; rfl
      generalize Int.tdiv (wrap64 (n * 10)) 10 = q at h3 ⊢
      unfold I at h2 ⊢
      omega
    rw [wrapI h1.1] at h
    rw [h] at h1
    unfold I
    omega
  · intro h
    rw [wrapI h, Int.mul_tdiv_cancel _ (by decide), wrapI hn]
theorem whole_loop : ∀ (d : Nat) (n e i : Int), I n → 0 ≤ i → e ≤ 18 → e - i = d →
    Ev (fun k => decimal_Whole.l0 k n e i) (if -9223372036854775808 ≤ n * 10 ^ d ∧ n * 10 ^ d ≤ 9223372036854775807 then (n * 10 ^ d, true) else (0, false))
  | 0, n, e, i, hn, h0, h1, hd => by
    refine Ev.step (f := fun _ => some _) (fun k => ?_) (Ev.now _)
    simp only [decimal_Whole.l0]
    rw [if_neg (by omega), Int.pow_zero, Int.mul_one]
    congr 1
    exact (if_pos (show _ ∧ _ from hn)).symm
  | d + 1, n, e, i, hn, h0, h1, hd => by
    by_cases h : I (n * 10)
    · have ih := whole_loop d (n * 10) e (i + 1) h (by omega) h1 (by omega)
      have e1 : n * 10 * 10 ^ d = n * 10 ^ (d + 1) := by rw [Int.pow_succ, Int.mul_comm (10 ^ d), Int.mul_assoc]
      rw [e1] at ih
      refine Ev.step (fun k => ?_) ih
      simp only [decimal_Whole.l0]
      rw [if_pos (by omega), if_pos ((over_ten hn).2 h), wrapI h, wrapI (by unfold I; omega)]
    · rw [if_neg (show ¬ (_ ∧ _) from not_I_mul h d)]
      refine Ev.step (f := fun _ => some _) (fun k => ?_) (Ev.now _)
      simp only [decimal_Whole.l0]
      rw [if_pos (by omega), if_neg (fun k => h ((over_ten hn).1 k))]
theorem whole_ev (m e : Int) (im : I m) (ie : I e) : Ev (fun k => decimal_Whole.f k m e) (whole m e) := by
  unfold decimal_Whole.f whole
  refine Ev.bind (right_ev' m e im ie) ?_
  by_cases hr : isRight m e
  · refine Ev.if_pos (by simpa using hr) ?_
    by_cases h0 : e < 0
    · rw [if_neg (by omega)]
      exact Ev.if_pos h0 (Ev.step (f := fun _ => some _) (fun k => by simp only [decimal_Whole.j0]; rw [if_pos trivial]) (Ev.now _))
    · refine Ev.if_neg h0 ?_
      by_cases h1 : e > 18
      · rw [if_neg (by omega)]
        exact Ev.step (f := fun _ => some _) (fun k => by simp only [decimal_Whole.j0]; rw [if_pos (by simpa using h1)]) (Ev.now _)
      · have := whole_loop e.toNat m e 0 im (by omega) (by omega) (by omega)
        have e1 : (if isRight m e ∧ 0 ≤ e ∧ e ≤ 18 ∧ -9223372036854775808 ≤ m * 10 ^ e.toNat ∧ m * 10 ^ e.toNat ≤ 9223372036854775807 then (m * 10 ^ e.toNat, true) else (0, false)) =
            if -9223372036854775808 ≤ m * 10 ^ e.toNat ∧ m * 10 ^ e.toNat ≤ 9223372036854775807 then (m * 10 ^ e.toNat, true) else (0, false) := by
          by_cases h2 : -9223372036854775808 ≤ m * 10 ^ e.toNat ∧ m * 10 ^ e.toNat ≤ 9223372036854775807
          · rw [if_pos h2, if_pos ⟨hr, by omega, by omega, h2⟩]
          · rw [if_neg h2, if_neg (fun k => h2 k.2.2.2)]
        rw [e1]
        exact Ev.step (fun k => by simp only [decimal_Whole.j0]; rw [if_neg (by simpa using h1)]) this
  · rw [if_neg (fun k => hr k.1)]
    exact Ev.if_neg (by simpa using hr) (Ev.step (f := fun _ => some _) (fun k => by simp only [decimal_Whole.j0]; rw [if_pos trivial]) (Ev.now _))

/-! ### Texts -/
theorem hasPrefix_f (s p : ByteArray) : stringslite_HasPrefix.f s p = some (hasPrefix s.data.toList p.data.toList) := by
  unfold stringslite_HasPrefix.f
  have hs := size_eq s
  have hp := size_eq p
  by_cases h : (s.size : Int) ≥ (p.size : Int)
  · rw [if_pos h, if_pos (by omega), if_pos (by omega)]
    congr 1
    rw [extract_toList, toList_eq]
    unfold hasPrefix
    simp only [Int.toNat_natCast, Nat.sub_zero, List.drop_zero]
    rw [hp]
    generalize p.data.toList = q
    generalize s.data.toList = l
    by_cases hq : q <+: l
    · rw [(List.isPrefixOf_iff_prefix).2 hq]
      rw [beq_iff_eq]
      exact (List.prefix_iff_eq_take.1 hq).symm
    · have h2 : q.isPrefixOf l = false := by
        cases hh : q.isPrefixOf l with
        | false => rfl
        | true => exact absurd (List.isPrefixOf_iff_prefix.1 hh) hq
      rw [h2]
      refine beq_eq_false_iff_ne.2 fun k => hq (List.prefix_iff_eq_take.2 k.symm)
  · rw [if_neg h]
    congr 1
    cases hh : hasPrefix s.data.toList p.data.toList with
    | false => rfl
    | true =>
      have := (List.isPrefixOf_iff_prefix.1 hh).length_le
      omega
theorem trimPrefix_f (s p : ByteArray) : strings_TrimPrefix.f s p = some (ba (trimPrefix s.data.toList p.data.toList)) := by
  unfold strings_TrimPrefix.f stringslite_TrimPrefix.f
  rw [hasPrefix_f]
  simp only [Option.bind_some]
  have hs := size_eq s
  have hp := size_eq p
  unfold trimPrefix
  cases hh : hasPrefix s.data.toList p.data.toList with
  | false => simp [ba_self]
  | true =>
    have := (List.isPrefixOf_iff_prefix.1 hh).length_le
    rw [if_pos rfl, if_pos (by omega), if_pos (by omega), if_pos rfl]
    simp only [Option.bind_some, Int.toNat_natCast]
    congr 1
    apply data_inj
    rw [extract_data, ba_data, ← hp, hs]
    rw [List.take_of_length_le (by rw [List.length_drop]; exact Nat.le_refl _)]
theorem itoa_trim (n : Int) : trimPrefix (itoa n) [45] = decDigits n.natAbs := by
  unfold trimPrefix itoa
  by_cases h : n < 0
  · rw [if_pos h]
    simp [hasPrefix]
  · rw [if_neg h]
    have e : n.natAbs = n.toNat := by omega
    rw [e]
    cases hd : decDigits n.toNat with
    | nil => exact absurd hd (decDigits_ne_nil _)
    | cons c r =>
      have hc := (decDigits_dig n.toNat c (by rw [hd]; exact List.mem_cons_self)).1
      have h2 : ¬ ((45 : UInt8) = c) := fun k => by subst k; exact absurd hc (by decide)
      simp [hasPrefix, h2]
theorem digits_f (n : Int) (h : I n) : decimal_digits.f n = some (ba (decDigits n.natAbs)) := by
  unfold decimal_digits.f strconv_Itoa.f
  rw [if_pos h.1, if_pos h.2]
  simp only [Option.bind_some]
  rw [trimPrefix_f]
  simp only [Option.bind_some]
  rw [← itoa_trim n]
theorem natAbs_lt {n : Int} (h : I n) : n.natAbs < 10 ^ 19 := by
  have : (10 : Nat) ^ 19 = 10000000000000000000 := by decide
  unfold I at h
  omega
theorem digits_len {n : Int} (h : I n) : (decDigits n.natAbs).length ≤ 19 := by
  rw [decDigits_length]
  exact nDigits_le (by decide) (natAbs_lt h)
theorem cmp_f (x y : Int) : cmp_Compare_int.f x y = some (compareInt x y) := rfl
theorem or_stop (x y : Int) : Ev (fun k => cmp_Or_int.l0 k 0 [x, y] (([x, y] : List Int).length : Int) 2) 0 :=
  Ev.step (f := fun _ => some 0) (fun k => by simp only [cmp_Or_int.l0]; rw [if_neg (by simp)]) (Ev.now _)
theorem or_two (x y : Int) : Ev (fun k => cmp_Or_int.l0 k 0 [x, y] (([x, y] : List Int).length : Int) 1) y := by
  have h1 : rd [x, y] 1 = y := rfl
  by_cases hy : y = 0
  · have := or_stop x y
    rw [← hy] at this
    refine Ev.step (fun k => ?_) this
    simp only [cmp_Or_int.l0]
    rw [if_pos (by simp), if_pos (by decide), if_pos (by simp), h1, if_pos hy, show wrap64 (1 + 1) = 2 by unfold wrap64; omega, hy]
  · refine Ev.step (f := fun _ => some y) (fun k => ?_) (Ev.now _)
    simp only [cmp_Or_int.l0]
    rw [if_pos (by simp), if_pos (by decide), if_pos (by simp), h1, if_neg hy]
theorem or_ev (x y : Int) : Ev (fun k => cmp_Or_int.f k [x, y]) (if x = 0 then y else x) := by
  have h1 : rd [x, y] 0 = x := rfl
  unfold cmp_Or_int.f
  by_cases hx : x = 0
  · rw [if_pos hx]
    refine Ev.step (fun k => ?_) (or_two x y)
    simp only [cmp_Or_int.l0]
    rw [if_pos (by simp), if_pos (by decide), if_pos (by simp), h1, if_pos hx, show wrap64 (0 + 1) = 1 by unfold wrap64; omega]
  · rw [if_neg hx]
    refine Ev.step (f := fun _ => some x) (fun k => ?_) (Ev.now _)
    simp only [cmp_Or_int.l0]
    rw [if_pos (by simp), if_pos (by decide), if_pos (by simp), h1, if_neg hx]
theorem mag {m e : Int} (h : isRight m e) (h0 : m ≠ 0) : m.natAbs % 10 ≠ 0 ∧ -32768 ≤ e ∧ e ≤ 32767 := by
  rcases h with ⟨k, _⟩ | ⟨_, h1, h2, h3⟩
  · exact absurd k h0
  · refine ⟨fun k => h1 ?_, h2, h3⟩
    have : (Int.tmod m 10).natAbs = m.natAbs % 10 := Int.natAbs_tmod m 10
    rw [k] at this
    exact Int.natAbs_eq_zero.1 this
theorem compare_shift (a b c d : Nat) (x y : Int) (hx : (a : Int) + x = c - 32768) (hy : (b : Int) + y = d - 32768) : compareInt ((a : Int) + x) ((b : Int) + y) = compareInt (c : Int) (d : Int) := by
  rw [hx, hy]
  unfold compareInt
  have h1 : ((c : Int) - 32768 < (d : Int) - 32768) ↔ ((c : Int) < (d : Int)) := by omega
  have h2 : ((c : Int) - 32768 > (d : Int) - 32768) ↔ ((c : Int) > (d : Int)) := by omega
  simp only [h1, h2]
theorem above_ev {am ae bm be : Int} (ia : I am) (ib : I bm) (ha : isRight am ae) (hb : isRight bm be) (a0 : am ≠ 0) (b0 : bm ≠ 0) :
    Ev (fun k => decimal_above.f k am ae bm be) (compareInt ((am.natAbs * 10 ^ scale ae : Nat) : Int) ((bm.natAbs * 10 ^ scale be : Nat) : Int)) := by
  obtain ⟨a1, a2, a3⟩ := mag ha a0
  obtain ⟨b1, b2, b3⟩ := mag hb b0
  have la := digits_len ia
  have lb := digits_len ib
  rw [← above_eq a1 b1]
  unfold decimal_above.f
  refine Ev.bind0 (digits_f am ia) (Ev.bind0 (digits_f bm ib) (Ev.bind0 (cmp_f _ _) (Ev.bind0 rfl (Ev.bind (or_ev _ _) (Ev.const fun k => ?_)))))
  simp only [ba_size, ba_data]
  rw [wrapI (by unfold I; omega), wrapI (by unfold I; omega), decDigits_length, decDigits_length,
    compare_shift (nDigits am.natAbs) (nDigits bm.natAbs) (nDigits am.natAbs + scale ae) (nDigits bm.natAbs + scale be) ae be (by unfold scale; omega) (by unfold scale; omega)]
theorem val_pos {m e : Int} (h : 0 < m) : 0 < val m e := Int.mul_pos h (pow_scale_pos e)
theorem val_neg {m e : Int} (h : m < 0) : val m e < 0 := Int.mul_neg_of_neg_of_pos h (pow_scale_pos e)
theorem val_zero (e : Int) : val 0 e = 0 := Int.zero_mul _
theorem val_abs_pos {m e : Int} (h : 0 < m) : ((m.natAbs * 10 ^ scale e : Nat) : Int) = val m e := by
  unfold val
  rw [val_pow, Int.natCast_mul]
  congr 1
  omega
theorem val_abs_neg {m e : Int} (h : m < 0) : ((m.natAbs * 10 ^ scale e : Nat) : Int) = -val m e := by
  unfold val
  rw [val_pow, Int.natCast_mul, ← Int.neg_mul]
  congr 1
  omega
theorem compare_right_ev {am ae bm be : Int} (ia : I am) (ib : I bm) (ha : isRight am ae) (hb : isRight bm be) :
    Ev (fun k => decimal_Compare.j1 k am ae bm be) (compareInt (val am ae) (val bm be)) := by
  refine Ev.step (f := fun k => _) (fun k => by simp only [decimal_Compare.j1]; rfl) ?_
  refine Ev.bind0 (cmp_f _ _) (Ev.bind0 (cmp_f _ _) ?_)
  rcases Int.lt_trichotomy am 0 with h1 | h1 | h1 <;> rcases Int.lt_trichotomy bm 0 with h2 | h2 | h2
  · rw [cmpI_lt h1, cmpI_lt h2]
    refine Ev.if_pos rfl (Ev.if_neg (by decide) (Ev.bind (above_ev ia ib ha hb (by omega) (by omega)) (Ev.const fun k => ?_)))
    rw [val_abs_neg h1, val_abs_neg h2, compareInt_neg]
    generalize hq : compareInt (val am ae) (val bm be) = q
    have : -1 ≤ q ∧ q ≤ 1 := by
      subst hq
      unfold compareInt
      repeat' split
      all_goals omega
    rw [wrapI (by unfold I; omega)]
    congr 1
    omega
  · subst h2
    rw [cmpI_lt h1, cmpI_eq rfl, val_zero, cmpI_lt (val_neg h1)]
    exact Ev.if_neg (by decide) (Ev.bind0 (cmp_f _ _) (Ev.now _))
  · rw [cmpI_lt h1, cmpI_gt h2, cmpI_lt (Int.lt_trans (val_neg h1) (val_pos h2))]
    exact Ev.if_neg (by decide) (Ev.bind0 (cmp_f _ _) (Ev.now _))
  · subst h1
    rw [cmpI_eq rfl, cmpI_lt h2, val_zero, cmpI_gt (val_neg h2)]
    exact Ev.if_neg (by decide) (Ev.bind0 (cmp_f _ _) (Ev.now _))
  · subst h1; subst h2
    rw [cmpI_eq rfl, val_zero, val_zero, cmpI_eq rfl]
    exact Ev.if_pos rfl (Ev.if_pos rfl (Ev.now _))
  · subst h1
    rw [cmpI_eq rfl, cmpI_gt h2, val_zero, cmpI_lt (val_pos h2)]
    exact Ev.if_neg (by decide) (Ev.bind0 (cmp_f _ _) (Ev.now _))
  · rw [cmpI_gt h1, cmpI_lt h2, cmpI_gt (Int.lt_trans (val_neg h2) (val_pos h1))]
    exact Ev.if_neg (by decide) (Ev.bind0 (cmp_f _ _) (Ev.now _))
  · subst h2
    rw [cmpI_gt h1, cmpI_eq rfl, val_zero, cmpI_gt (val_pos h1)]
    exact Ev.if_neg (by decide) (Ev.bind0 (cmp_f _ _) (Ev.now _))
  · rw [cmpI_gt h1, cmpI_gt h2]
    refine Ev.if_pos rfl (Ev.if_neg (by decide) (Ev.bind (above_ev ia ib ha hb (by omega) (by omega)) (Ev.const fun k => ?_)))
    rw [val_abs_pos h1, val_abs_pos h2]
    generalize hq : compareInt (val am ae) (val bm be) = q
    have : -1 ≤ q ∧ q ≤ 1 := by
      subst hq
      unfold compareInt
      repeat' split
      all_goals omega
    rw [wrapI (by unfold I; omega)]
    congr 1
    omega
theorem compare_ev (am ae bm be : Int) (i1 : I am) (i2 : I ae) (i3 : I bm) (i4 : I be) : Ev (fun k => decimal_Compare.f k am ae bm be) (cmpD am ae bm be) := by
  have step2 : ∀ (x y : Int), I x → isRight x y → Ev (fun k => decimal_Compare.j0 k x y bm be) (compareInt (val x y) (val (clean bm be).1 (clean bm be).2)) := by
    intro x y ix hx
    refine Ev.step (f := fun k => _) (fun k => by simp only [decimal_Compare.j0]; rfl) (Ev.bind (right_ev' bm be i3 i4) ?_)
    by_cases hb : isRight bm be
    · rw [clean_of hb]
      exact Ev.if_pos (by simpa using hb) (compare_right_ev ix i3 hx hb)
    · have e : clean bm be = (0, 0) := by unfold clean; rw [if_neg hb]
      rw [e]
      exact Ev.if_neg (by simpa using hb) (compare_right_ev ix ⟨by decide, by decide⟩ hx isRight_zero)
  unfold decimal_Compare.f cmpD
  refine Ev.bind (right_ev' am ae i1 i2) ?_
  by_cases ha : isRight am ae
  · rw [clean_of ha]
    exact Ev.if_pos (by simpa using ha) (step2 am ae i1 ha)
  · have e : clean am ae = (0, 0) := by unfold clean; rw [if_neg ha]
    rw [e]
    exact Ev.if_neg (by simpa using ha) (step2 0 0 ⟨by decide, by decide⟩ isRight_zero)
end Go.Proofs.YtfdeheodjkpkkaaGreatDoor.De
