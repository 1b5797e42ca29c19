/- What the reference's functions on decimals compute: the same. -/
import Derived.Test.YtbbonbhammfpjaaDoorAll9
import Derived.Test.YtbbonbhammfpjaaDoorAll10
import Derived.Test.YtbbonbhammfpjaaDoorAll12
import Derived.Test.YtbbonbhammfpjaaDoorAll13
import Derived.Test.YtbbonbhammfpjaaDoorDe
namespace Go.Proofs.YtbbonbhammfpjaaDoor.DeRef
open Go.RowKit Go.Proofs.YtbbonbhammfpjaaDoorW.PrintWords Go.Proofs.YtbbonbhammfpjaaDoor.All Go.Proofs.YtbbonbhammfpjaaDoor.Dm Go.Proofs.YtbbonbhammfpjaaDoor.Ba Go.Proofs.YtbbonbhammfpjaaDoor.De Go.Lib

theorem norm_l0 : ∀ (k : Nat) (m e : Int), deckleref06_Norm.l0 k m e = decimal_Norm.l0 k m e
  | 0, _, _ => rfl
  | k + 1, m, e => by
    simp only [deckleref06_Norm.l0, decimal_Norm.l0]
    rw [norm_l0 k]
theorem norm_f (k : Nat) (m e : Int) : deckleref06_Norm.f k m e = decimal_Norm.f k m e := by
  unfold deckleref06_Norm.f decimal_Norm.f
  rw [norm_l0]
theorem rnorm_ev (m e : Int) (im : I m) (ie : I e) : Ev (fun k => deckleref06_Norm.f k m e) (normD m e) := (norm_ev m e im ie).congr fun k => norm_f k m e
theorem rright_ev (m e : Int) (im : I m) (ie : I e) : Ev (fun k => deckleref06_Right.f k m e) (decide (isRight m e)) := by
  rw [← rightD_eq]
  refine (right_ev m e im ie).congr fun k => ?_
  unfold deckleref06_Right.f decimal_Right.f
  rw [norm_f]
theorem rwhole_loop : ∀ (d : Nat) (n e i a : Int), I n → 0 ≤ i → e ≤ 18 → e - i = d →
    Ev (fun k => deckleref06_Whole.l0 k n i a e) (if -9223372036854775808 ≤ n * 10 ^ d ∧ n * 10 ^ d ≤ 9223372036854775807 then (n * 10 ^ d, true) else (0, false))
  | 0, n, e, i, a, hn, h0, h1, hd => by
    refine Ev.step (f := fun _ => some _) (fun k => ?_) (Ev.now _)
    simp only [deckleref06_Whole.l0]
    rw [if_neg (by omega), Int.pow_zero, Int.mul_one]
    congr 1
    exact (if_pos (show _ ∧ _ from hn)).symm
  | d + 1, n, e, i, a, hn, h0, h1, hd => by
    by_cases h : I (n * 10)
    · have ih := rwhole_loop d (n * 10) e (i + 1) a h (by omega) h1 (by omega)
      have e1 : n * 10 * 10 ^ d = n * 10 ^ (d + 1) := by rw [Int.pow_succ, Int.mul_comm (10 ^ d), Int.mul_assoc]
      rw [e1] at ih
      refine Ev.step (fun k => ?_) ih
      simp only [deckleref06_Whole.l0]
      rw [if_pos (by omega), if_neg (by unfold I at h; omega), if_neg (by unfold I at h; omega), Int.mul_comm 10 n, wrapI h, wrapI (by unfold I; omega)]
    · rw [if_neg (show ¬ (_ ∧ _) from not_I_mul h d)]
      refine Ev.step (f := fun _ => some _) (fun k => ?_) (Ev.now _)
      simp only [deckleref06_Whole.l0]
      rw [if_pos (by omega)]
      by_cases h2 : n > 922337203685477580
      · rw [if_pos h2]
      · rw [if_neg h2, if_pos (by unfold I at h; omega)]
theorem rwhole_ev (m e : Int) (im : I m) (ie : I e) : Ev (fun k => deckleref06_Whole.f k m e) (whole m e) := by
  unfold deckleref06_Whole.f whole
  refine Ev.bind (rright_ev m e im ie) ?_
  by_cases hr : isRight m e
  · refine Ev.if_pos (by simpa using hr) ?_
    by_cases h0 : e < 0
    · rw [if_neg (by omega)]
      exact Ev.if_pos h0 (Ev.step (f := fun _ => some _) (fun k => by simp only [deckleref06_Whole.j0]; rw [if_pos trivial]) (Ev.now _))
    · refine Ev.if_neg h0 ?_
      by_cases h1 : e > 18
      · rw [if_neg (by omega)]
        exact Ev.step (f := fun _ => some _) (fun k => by simp only [deckleref06_Whole.j0]; rw [if_pos (by simpa using h1)]) (Ev.now _)
      · have := rwhole_loop e.toNat m e 0 m im (by omega) (by omega) (by omega)
        have e1 : (if isRight m e ∧ 0 ≤ e ∧ e ≤ 18 ∧ -9223372036854775808 ≤ m * 10 ^ e.toNat ∧ m * 10 ^ e.toNat ≤ 9223372036854775807 then (m * 10 ^ e.toNat, true) else (0, false)) =
            if -9223372036854775808 ≤ m * 10 ^ e.toNat ∧ m * 10 ^ e.toNat ≤ 9223372036854775807 then (m * 10 ^ e.toNat, true) else (0, false) := by
          by_cases h2 : -9223372036854775808 ≤ m * 10 ^ e.toNat ∧ m * 10 ^ e.toNat ≤ 9223372036854775807
          · rw [if_pos h2, if_pos ⟨hr, by omega, by omega, h2⟩]
          · rw [if_neg h2, if_neg (fun k => h2 k.2.2.2)]
        rw [e1]
        exact Ev.step (fun k => by simp only [deckleref06_Whole.j0]; rw [if_neg (by simpa using h1)]) this
  · rw [if_neg (fun k => hr k.1)]
    exact Ev.if_neg (by simpa using hr) (Ev.step (f := fun _ => some _) (fun k => by simp only [deckleref06_Whole.j0]; rw [if_pos trivial]) (Ev.now _))

/-! ### Digits -/
theorem u64_in {n : Int} (h0 : 0 ≤ n) (h1 : n < 18446744073709551616) : IntKind.u64.wrap n = n := by
  simp only [IntKind.wrap, IntKind.signed, IntKind.bits]
  simp
  omega
theorem size_f (n : Int) (h : I n) : deckleref06_size.f n = some (n.natAbs : Int) := by
  unfold deckleref06_size.f
  unfold I at h
  by_cases h0 : n < 0
  · rw [if_pos h0, wrapI (n := n + 1) (by unfold I; omega), wrapI (n := -(n + 1)) (by unfold I; omega), u64_in (n := -(n + 1)) (by omega) (by omega), u64_in (by omega) (by omega)]
    congr 1
    omega
  · rw [if_neg h0, u64_in (by omega) (by omega)]
    congr 1
    omega
theorem strOfNums_one (x : Nat) : strOfNums [(x : Int)] = ba [UInt8.ofNat x] := by
  simp [strOfNums, ba]
theorem dig_one {d : Nat} (h : d < 10) : (IntKind.u64.wrap (48 + (d : Int))) % 256 = ((48 + d : Nat) : Int) := by
  rw [u64_in (by omega) (by omega)]
  omega
theorem rdigits_ev : ∀ (u : Nat), u < 18446744073709551616 → Ev (fun k => deckleref06_digits.f k (u : Int)) (ba (decDigits u)) := by
  intro u
  induction u using Nat.strongRecOn with
  | _ u ih =>
    intro hu
    by_cases h : u < 10
    · rw [decDigits_small h]
      refine Ev.step (f := fun _ => some _) (fun k => ?_) (Ev.now _)
      simp only [deckleref06_digits.f]
      rw [if_pos (by omega), dig_one h, strOfNums_one _]
    · rw [decDigits_big h]
      have h1 : Int.tdiv (u : Int) 10 = ((u / 10 : Nat) : Int) := by rw [Int.tdiv_eq_ediv_of_nonneg (by omega)]; rfl
      have h2 : Int.tmod (u : Int) 10 = ((u % 10 : Nat) : Int) := by rw [Int.tmod_eq_emod_of_nonneg (by omega)]; rfl
      refine Ev.step (f := fun k => (deckleref06_digits.f k ((u / 10 : Nat) : Int)).bind fun t => if t.size + (ba [UInt8.ofNat (48 + u % 10)]).size ≤ 9223372036854775807 then some (t ++ ba [UInt8.ofNat (48 + u % 10)]) else none) (fun k => ?_) ?_
      · simp only [deckleref06_digits.f]
        rw [if_neg (by omega), h1, h2, u64_in (by omega) (by omega), dig_one (by omega)]
        simp only [Option.bind_some]
        rw [strOfNums_one _]
      · refine Ev.bind (ih (u / 10) (by omega) (by omega)) (Ev.const fun k => ?_)
        have hl : (decDigits (u / 10)).length ≤ 20 := by
          rw [decDigits_length]
          refine nDigits_le (by decide) ?_
          have : (10 : Nat) ^ 20 = 100000000000000000000 := by decide
          omega
        rw [if_pos (by rw [ba_size, ba_size]; simp; omega), ba_append]
theorem rnumber_ev (n : Int) (h : I n) : Ev (fun k => deckleref06_Number.f k n) (ba (numL n)) := by
  have hn : n.natAbs < 18446744073709551616 := by unfold I at h; omega
  have hl := digits_len h
  unfold deckleref06_Number.f numL
  rw [size_f n h]
  simp only [Option.bind_some]
  by_cases h0 : n < 0
  · rw [if_pos h0]
    refine Ev.if_pos h0 (Ev.bind (rdigits_ev _ hn) (Ev.const fun k => ?_))
    rw [if_pos (by rw [ba_size]; omega)]
    exact congrArg some (ba_append [194, 175] _)
  · rw [if_neg h0]
    exact Ev.if_neg h0 (Ev.bind (rdigits_ev _ hn) (Ev.now _))
theorem rtext_ev (m e : Int) (im : I m) (ie : I e) : Ev (fun k => deckleref06_Text.f k m e) (ba (textL m e)) := by
  unfold deckleref06_Text.f textL
  refine Ev.bind (rright_ev m e im ie) ?_
  by_cases hr : isRight m e
  · rw [if_pos hr]
    refine Ev.if_pos (by simpa using hr) ?_
    by_cases h0 : e = 0
    · rw [if_pos h0]
      exact Ev.if_pos h0 (Ev.bind (rnumber_ev m im) (Ev.now _))
    · rw [if_neg h0]
      refine Ev.if_neg h0 (Ev.bind (rnumber_ev m im) ?_)
      have l1 := numL_len im
      have l2 := numL_len ie
      refine Ev.if_pos (by rw [ba_size]; omega) (Ev.bind (rnumber_ev e ie) (Ev.const fun k => ?_))
      rw [show ba (numL m) ++ (⟨#[69]⟩ : ByteArray) = ba (numL m ++ [69]) from ba_append _ [69], if_pos (by rw [ba_size, ba_size, List.length_append]; simp; omega), ba_append, List.append_assoc]
      rfl
  · rw [if_neg hr]
    exact Ev.if_neg (by simpa using hr) (Ev.now _)

/-! ### Reading: whatever the text, a number is taken, and what follows -/
def notDig (l : List UInt8) : Prop := ∀ c r, l = c :: r → ¬ isDig c
/-- What stands behind the digits: the number, and the rest (where there are too many digits: nought, and nothing). -/
def takeEnd (minus : Bool) (n : Nat) (l : List UInt8) : Int × List UInt8 :=
  if minus = true then (wrap64 (-(wrap64 (n : Int))), l) else if (n : Int) = 9223372036854775808 then (0, []) else (wrap64 (n : Int), l)
def takeL (minus : Bool) : Nat → List UInt8 → Int × List UInt8
  | n, [] => takeEnd minus n []
  | n, c :: l => if 48 ≤ c.toNat ∧ c.toNat ≤ 57 then (if n > (9223372036854775808 - (c.toNat - 48)) / 10 then (0, []) else takeL minus (10 * n + (c.toNat - 48)) l) else takeEnd minus n (c :: l)
theorem bt0 (c : UInt8) (l : List UInt8) : bt (ba (c :: l)) 0 = (c.toNat : Int) := ba_bt (c :: l) 0 (by simp)
theorem take_end (minus : Bool) (n : Nat) (l : List UInt8) : Ev (fun k => deckleref06_take.j3 k (ba l) minus (n : Int) false) ((takeEnd minus n l).1, ba (takeEnd minus n l).2) := by
  refine Ev.step (f := fun _ => some _) (fun k => ?_) (Ev.now _)
  simp only [deckleref06_take.j3]
  rw [if_neg (by decide)]
  unfold takeEnd
  by_cases hm : minus = true
  · rw [if_pos hm, if_pos hm]
  · rw [if_neg hm, if_neg hm]
    by_cases hn : (n : Int) = 9223372036854775808
    · rw [if_pos hn, if_pos hn]
      rfl
    · rw [if_neg hn, if_neg hn]
theorem take_loop (minus : Bool) : ∀ (l : List UInt8) (n : Nat), n ≤ 9223372036854775808 → Ev (fun k => deckleref06_take.l0 k (ba l) minus (n : Int)) ((takeL minus n l).1, ba (takeL minus n l).2)
  | [], n, hn => by
    refine Ev.step (fun k => ?_) (take_end minus n [])
    simp only [deckleref06_take.l0]
    rw [if_pos (ba_toList [])]
  | c :: l, n, hn => by
    have hc : c.toNat < 256 := c.toNat_lt
    have hnn : ¬ (ba (c :: l)).toList = [] := by rw [ba_toList]; simp
    have hsz : 0 < ((ba (c :: l)).size : Int) := by rw [ba_size]; simp
    unfold takeL
    by_cases hd : 48 ≤ c.toNat ∧ c.toNat ≤ 57
    · rw [if_pos hd]
      have hsub : ((c.toNat : Int) - 48) % 256 = ((c.toNat - 48 : Nat) : Int) := by omega
      have hdiv : (9223372036854775808 - ((c.toNat - 48 : Nat) : Int)) / 10 = (((9223372036854775808 - (c.toNat - 48)) / 10 : Nat) : Int) := by omega
      by_cases ho : n > (9223372036854775808 - (c.toNat - 48)) / 10
      · rw [if_pos ho]
        refine Ev.step (f := fun k => deckleref06_take.j3 k (ba (c :: l)) minus (n : Int) true) (fun k => ?_) (Ev.step (f := fun _ => some _) (fun k => ?_) (Ev.now _))
        · simp only [deckleref06_take.l0]
          rw [if_neg hnn, if_pos hsz, bt0, if_pos (by omega), decide_eq_true (by omega)]
        · simp only [deckleref06_take.j3]
          rw [if_pos trivial, if_pos hsz, bt0, hsub, hdiv, if_pos (by omega)]
          rfl
      · rw [if_neg ho]
        have hb : 10 * n + (c.toNat - 48) ≤ 9223372036854775808 := by omega
        have ih := take_loop minus l (10 * n + (c.toNat - 48)) hb
        have h1 : 1 ≤ ((ba (c :: l)).size : Int) := by omega
        have hx : (ba (c :: l)).extract 1 (ba (c :: l)).size = ba l := by
          rw [ba_extract, ba_size]
          congr 1
          simp
        refine Ev.step (f := fun k => deckleref06_take.j3 k (ba (c :: l)) minus (n : Int) true) (fun k => ?_) (Ev.step (fun k => ?_) ih)
        · simp only [deckleref06_take.l0]
          rw [if_neg hnn, if_pos hsz, bt0, if_pos (by omega), decide_eq_true (by omega)]
        · simp only [deckleref06_take.j3]
          rw [if_pos trivial, if_pos hsz, bt0, hsub, hdiv, if_neg (by omega), if_pos h1, hx, u64_in (n := 10 * (n : Int)) (by omega) (by omega), u64_in (by omega) (by omega)]
          congr 1
    · rw [if_neg hd]
      refine Ev.step (fun k => ?_) (take_end minus n (c :: l))
      simp only [deckleref06_take.l0]
      rw [if_neg hnn, if_pos hsz, bt0]
      by_cases h1 : (c.toNat : Int) ≥ 48
      · rw [if_pos h1, decide_eq_false (by omega)]
      · rw [if_neg h1]
def takeD (l : List UInt8) : Int × List UInt8 := if l.take 2 = [194, 175] then takeL true 0 (l.drop 2) else takeL false 0 l
theorem take_j0 (l : List UInt8) (h : l.take 2 = [194, 175]) : Ev (fun k => deckleref06_take.j0 k (ba l) true) ((takeL true 0 (l.drop 2)).1, ba (takeL true 0 (l.drop 2)).2) := by
  have h2 : 2 ≤ l.length := by
    have := congrArg List.length h
    simp at this
    omega
  have hx : (ba l).extract 2 (ba l).size = ba (l.drop 2) := by
    rw [ba_extract, ba_size]
    congr 1
    rw [List.take_of_length_le (by rw [List.length_drop]; exact Nat.le_refl _)]
  refine Ev.step (f := fun k => deckleref06_take.j1 k (ba (l.drop 2)) true) (fun k => ?_) (Ev.step (fun k => rfl) (take_loop true (l.drop 2) 0 (by decide)))
  simp only [deckleref06_take.j0]
  rw [if_pos trivial, if_pos (by rw [ba_size]; omega), hx]
theorem take_j0' (l : List UInt8) : Ev (fun k => deckleref06_take.j0 k (ba l) false) ((takeL false 0 l).1, ba (takeL false 0 l).2) := by
  refine Ev.step (f := fun k => deckleref06_take.j1 k (ba l) false) (fun k => ?_) (Ev.step (fun k => rfl) (take_loop false l 0 (by decide)))
  simp only [deckleref06_take.j0]
  rw [if_neg (by decide)]
theorem take_ev (l : List UInt8) : Ev (fun k => deckleref06_take.f k (ba l)) ((takeD l).1, ba (takeD l).2) := by
  unfold deckleref06_take.f takeD
  have hs := ba_size l
  by_cases h2 : ((ba l).size : Int) ≥ 2
  · refine Ev.if_pos h2 (Ev.if_pos (by decide) (Ev.if_pos h2 ?_))
    have e : ((ba l).extract 0 2).toList = l.take 2 := by rw [ba_extract, ba_toList]; simp
    rw [e]
    by_cases h : l.take 2 = [194, 175]
    · rw [if_pos h, beq_iff_eq.2 h]
      exact take_j0 l h
    · rw [if_neg h, beq_eq_false_iff_ne.2 h]
      exact take_j0' l
  · rw [if_neg (fun k => by
      have := congrArg List.length k
      simp at this
      omega)]
    exact Ev.if_neg h2 (take_j0' l)
theorem takeL_I (minus : Bool) : ∀ (l : List UInt8) (n : Nat), I (takeL minus n l).1
  | [], n => by
    unfold takeL takeEnd
    split
    · exact wrap_I _
    · split
      · exact ⟨by decide, by decide⟩
      · exact wrap_I _
  | c :: l, n => by
    unfold takeL
    split
    · split
      · exact ⟨by decide, by decide⟩
      · exact takeL_I minus l _
    · unfold takeEnd
      split
      · exact wrap_I _
      · split
        · exact ⟨by decide, by decide⟩
        · exact wrap_I _
theorem takeD_I (l : List UInt8) : I (takeD l).1 := by
  unfold takeD
  split <;> exact takeL_I _ _ _
theorem takeL_len (minus : Bool) : ∀ (l : List UInt8) (n : Nat), (takeL minus n l).2.length ≤ l.length
  | [], n => by
    unfold takeL takeEnd
    split
    · exact Nat.le_refl _
    · split <;> exact Nat.le_refl _
  | c :: l, n => by
    unfold takeL
    split
    · split
      · simp
      · exact Nat.le_trans (takeL_len minus l _) (by simp)
    · unfold takeEnd
      split
      · exact Nat.le_refl _
      · split
        · simp
        · exact Nat.le_refl _
theorem takeL_digits (minus : Bool) (rest : List UInt8) (hr : notDig rest) : ∀ (l : List UInt8) (n : Nat), (∀ c ∈ l, isDig c) → n * 10 ^ l.length + ofDigits l ≤ 9223372036854775808 →
    takeL minus n (l ++ rest) = takeEnd minus (n * 10 ^ l.length + ofDigits l) rest
  | [], n, _, _ => by
    simp only [List.nil_append, List.length_nil, Nat.pow_zero, Nat.mul_one, ofDigits, List.foldl_nil, Nat.add_zero]
    cases rest with
    | nil => rfl
    | cons c r =>
      unfold takeL
      rw [if_neg (show ¬ (48 ≤ c.toNat ∧ c.toNat ≤ 57) from hr c r rfl)]
  | c :: l, n, h, hb => by
    have hc := h c (List.mem_cons_self)
    unfold isDig at hc
    rw [ofDigits_cons, List.length_cons, Nat.pow_succ] at hb ⊢
    have hp := pow10_pos l.length
    have e1 : n * (10 ^ l.length * 10) + ((c.toNat - 48) * 10 ^ l.length + ofDigits l) = (10 * n + (c.toNat - 48)) * 10 ^ l.length + ofDigits l := by
      rw [Nat.add_mul, Nat.mul_comm (10 ^ l.length) 10, ← Nat.mul_assoc, Nat.mul_comm n 10]
      omega
    rw [e1] at hb ⊢
    have h1 : (10 * n + (c.toNat - 48)) * 1 ≤ (10 * n + (c.toNat - 48)) * 10 ^ l.length := Nat.mul_le_mul_left _ hp
    rw [List.cons_append, takeL, if_pos hc, if_neg (by omega)]
    exact takeL_digits minus rest hr l _ (fun x hx => h x (List.mem_cons_of_mem _ hx)) hb
theorem takeD_numL (n : Int) (h : I n) (rest : List UInt8) (hr : notDig rest) : takeD (numL n ++ rest) = (n, rest) := by
  unfold I at h
  unfold takeD numL
  by_cases h0 : n < 0
  · rw [if_pos h0]
    rw [if_pos (by simp)]
    show takeL true 0 (decDigits n.natAbs ++ rest) = _
    rw [takeL_digits true rest hr _ _ (decDigits_dig _) (by rw [ofDigits_decDigits]; omega), ofDigits_decDigits, Nat.zero_mul, Nat.zero_add]
    unfold takeEnd
    rw [if_pos rfl]
    congr 1
    unfold wrap64
    omega
  · rw [if_neg h0]
    have hne : ¬ (decDigits n.natAbs ++ rest).take 2 = [194, 175] := by
      intro k
      cases hd : decDigits n.natAbs with
      | nil => exact absurd hd (decDigits_ne_nil _)
      | cons c r =>
        have hc := (decDigits_dig n.natAbs c (by rw [hd]; exact List.mem_cons_self)).2
        rw [hd] at k
        have : c = 194 := by
          cases hr2 : r ++ rest with
          | nil => simp [hr2] at k
          | cons d q =>
            rw [List.cons_append, hr2] at k
            simp at k
            exact k.1
        subst this
        exact absurd hc (by decide)
    rw [if_neg hne, takeL_digits false rest hr _ _ (decDigits_dig _) (by rw [ofDigits_decDigits]; omega), ofDigits_decDigits, Nat.zero_mul, Nat.zero_add]
    unfold takeEnd
    rw [if_neg (by decide), if_neg (by omega)]
    congr 1
    unfold wrap64
    omega
def expD (l : List UInt8) : Int := match (takeD l).2 with
  | c :: r => if c = 69 then (takeD r).1 else 0
  | [] => 0
def rparseD (l : List UInt8) : Int × Int × Bool :=
  if l.length > 60 then (0, 0, false) else if l = [] then (0, 0, false) else if textL (takeD l).1 (expD l) = l then ((takeD l).1, expD l, true) else (0, 0, false)
theorem rparse_tail (l : List UInt8) (m e : Int) (im : I m) (ie : I e) :
    Ev (fun k => if (ba l).toList = ([] : List UInt8) then some (0, 0, false) else (deckleref06_Text.f k m e).bind fun t => if t.toList = (ba l).toList then some (m, e, true) else some (0, 0, false))
      (if l = [] then (0, 0, false) else if textL m e = l then (m, e, true) else (0, 0, false)) := by
  rw [ba_toList]
  by_cases h0 : l = []
  · rw [if_pos h0]
    exact Ev.if_pos h0 (Ev.now _)
  · rw [if_neg h0]
    refine Ev.if_neg h0 (Ev.bind (rtext_ev m e im ie) ?_)
    rw [ba_toList]
    by_cases h1 : textL m e = l
    · rw [if_pos h1, if_pos h1]
      exact Ev.now _
    · rw [if_neg h1, if_neg h1]
      exact Ev.now _
theorem rparse_ev (l : List UInt8) : Ev (fun k => deckleref06_Parse.f k (ba l)) (rparseD l) := by
  unfold deckleref06_Parse.f rparseD
  rw [ba_size]
  by_cases hl : l.length > 60
  · rw [if_pos hl]
    exact Ev.if_pos (by omega) (Ev.now _)
  · rw [if_neg hl]
    refine Ev.if_neg (by omega) (Ev.bind (take_ev l) ?_)
    have hI := takeD_I l
    rw [ba_toList]
    unfold expD
    cases hr : (takeD l).2 with
    | nil =>
      refine Ev.if_pos rfl (Ev.step (fun k => ?_) (rparse_tail l _ 0 hI ⟨by decide, by decide⟩))
      simp only [deckleref06_Parse.j0]
      rw [if_neg (by decide)]
    | cons c r =>
      refine Ev.if_neg (by simp) (Ev.if_pos (by rw [ba_size]; simp) ?_)
      rw [bt0]
      by_cases hc : c = 69
      · subst hc
        simp only [if_true]
        have hx : (ba (69 :: r)).extract 1 (ba (69 :: r)).size = ba r := by
          rw [ba_extract, ba_size]
          congr 1
          simp
        refine Ev.step (f := fun k => (deckleref06_take.f k (ba r)).bind fun bt => if (ba l).toList = ([] : List UInt8) then some (0, 0, false) else (deckleref06_Text.f k (takeD l).1 bt.1).bind fun t => if t.toList = (ba l).toList then some ((takeD l).1, bt.1, true) else some (0, 0, false)) (fun k => ?_) (Ev.bind (take_ev r) (rparse_tail l _ _ hI (takeD_I r)))
        simp only [deckleref06_Parse.j0]
        rw [if_pos (by decide), if_pos (by rw [ba_size]; simp; omega), hx]
      · simp only [if_neg hc]
        have h2 : (((c.toNat : Nat) : Int) == 69) = false := by
          refine beq_eq_false_iff_ne.2 fun k => hc ?_
          apply UInt8.toNat.inj
          show c.toNat = 69
          omega
        rw [h2]
        refine Ev.step (fun k => ?_) (rparse_tail l _ 0 hI ⟨by decide, by decide⟩)
        simp only [deckleref06_Parse.j0]
        rw [if_neg (by decide)]
theorem rtake_text {m e : Int} (h : isRight m e) (im : I m) (ie : I e) : (takeD (textL m e)).1 = m ∧ expD (textL m e) = e := by
  unfold expD textL
  rw [if_pos h]
  by_cases h0 : e = 0
  · have := takeD_numL m im [] (fun c r k => by cases k)
    rw [List.append_nil] at this
    rw [if_pos h0, this]
    exact ⟨rfl, h0.symm⟩
  · have := takeD_numL m im (69 :: numL e) (fun c r k => by
      injection k with k1 k2
      subst k1
      unfold isDig
      decide)
    have h2 := takeD_numL e ie [] (fun c r k => by cases k)
    rw [List.append_nil] at h2
    rw [if_neg h0, this]
    exact ⟨rfl, by simp only [if_true]; rw [h2]⟩
/-- The two readers agree. -/
theorem rparse_eq (l : List UInt8) : rparseD l = parseD l := by
  have key : ∀ m e, isRight m e → I m → textL m e = l → rparseD l = (m, e, true) := by
    intro m e hr im ht
    have ie := isRight_I hr
    obtain ⟨a, b⟩ := rtake_text hr im ie
    have hlen := textL_len im ie
    rw [ht] at a b hlen
    unfold rparseD
    rw [if_neg (by omega), if_neg (fun k => textL_nil.1 (ht.trans k) hr), a, b, if_pos ht]
  cases hp : (parseD l).2.2 with
  | true =>
    have hx : parseD l = ((parseD l).1, (parseD l).2.1, true) := by rw [← hp]
    obtain ⟨hr, ht, im, ie⟩ := parse_true hx
    rw [hx]
    exact key _ _ hr im ht
  | false =>
    obtain ⟨hx, hn⟩ := parse_false hp
    rw [hx]
    unfold rparseD
    split
    · rfl
    · rename_i h60
      split
      · rfl
      · rename_i h0
        split
        · rename_i ht
          have hr : isRight (takeD l).1 (expD l) := by
            rcases Decidable.em (isRight (takeD l).1 (expD l)) with k | k
            · exact k
            · exact absurd (ht.symm.trans (textL_nil.2 k)) h0
          exact absurd ht (hn _ _ hr (takeD_I l))
        · rfl

/-! ### Order -/
theorem bytesLess_cmp : ∀ (x y : List UInt8), Op.bytesLess x y = decide (compareBytes x y = -1)
  | [], [] => rfl
  | [], _ :: _ => rfl
  | _ :: _, [] => rfl
  | a :: x, b :: y => by
    unfold Op.bytesLess compareBytes
    by_cases h1 : a < b
    · simp [h1]
    · by_cases h2 : b < a
      · have : ¬ a = b := fun k => by subst k; exact h1 h2
        simp [h1, h2, this]
      · have : a = b := by
          apply UInt8.toNat.inj
          have k1 : ¬ a.toNat < b.toNat := fun k => h1 (UInt8.lt_iff_toNat_lt.2 k)
          have k2 : ¬ b.toNat < a.toNat := fun k => h2 (UInt8.lt_iff_toNat_lt.2 k)
          omega
        subst this
        simp only [h1, decide_false, beq_self_eq_true, Bool.true_and, Bool.false_or, if_false]
        exact bytesLess_cmp x y
end Go.Proofs.YtbbonbhammfpjaaDoor.DeRef
