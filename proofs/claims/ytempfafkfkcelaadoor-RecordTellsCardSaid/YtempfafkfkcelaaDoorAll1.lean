-- Written for this claim by wip/tools/gprint.py out of the translation (it drives the kit's print). Lean checks it.
import Derived.Test.YtempfafkfkcelaaDoorAll0
namespace Go.Proofs.YtempfafkfkcelaaDoor.All
open Go.RowKit Go.Proofs.YtempfafkfkcelaaDoorW.PrintWords Go.Proofs.YtempfafkfkcelaaDoorW.PrintLast Go.Proofs.YtempfafkfkcelaaDoorW.PrintMore Go.Proofs.YtempfafkfkcelaaDoor.G
attribute [local go_sem] max2_int min2_int max_two min_two max_three min_three max_four min_four str_leq str_gtr str_geq   -- for this text's walks alone
set_option linter.unusedVariables false
set_option linter.unusedSimpArgs false

/-! ### record_marked: function 20 -/
def record_marked.f (a0 : Int) : Option (Bool) := if a0 = 32 then (some true) else (if a0 = 88 then (some true) else (some (a0 == 42)))
set_option maxHeartbeats 8000000 in
set_option maxRecDepth 100000 in
theorem record_marked.calls (a0 : Int) (r : Bool) (w : World) (hT : Tabs w) (h : record_marked.f a0 = some r) :
    Calls Tryd.prog 20 #[.int .u8 a0] w fun e w' => e = .returned (.bool r) ∧ Drawn0 w w' := by
  have H : (if a0 = 32 then (some true) else (if a0 = 88 then (some true) else (some (a0 == 42)))) = some r := h
  clear h
  by_cases c2 : a0 = 32
  · rw [if_pos c2] at H
    have c2b0 : (a0 == 32) = true := beq_iff_eq.mpr c2
    have c2b1 : (a0 != 32) = false := bne_eq_false_iff_eq.mpr c2
    clear c2
    obtain rfl := Option.some.inj H
    go_enter Tryd.func20, Tryd.ntmps20
    go_wp2
    go_ret
    exact ⟨by first | rfl | (simp; done) | (simp [*]; done), by repeat (first | exact Drawn0.refl _ | apply Drawn0.step)⟩
  · rw [if_neg c2] at H
    have c2b0 : (a0 == 32) = false := beq_eq_false_iff_ne.mpr c2
    have c2b1 : (a0 != 32) = true := bne_iff_ne.mpr c2
    by_cases c3 : a0 = 88
    · rw [if_pos c3] at H
      have c3b0 : (a0 == 88) = true := beq_iff_eq.mpr c3
      have c3b1 : (a0 != 88) = false := bne_eq_false_iff_eq.mpr c3
      clear c3
      obtain rfl := Option.some.inj H
      go_enter Tryd.func20, Tryd.ntmps20
      go_wp2
      go_ret
      exact ⟨by first | rfl | (simp; done) | (simp [*]; done), by repeat (first | exact Drawn0.refl _ | apply Drawn0.step)⟩
    · rw [if_neg c3] at H
      have c3b0 : (a0 == 88) = false := beq_eq_false_iff_ne.mpr c3
      have c3b1 : (a0 != 88) = true := bne_iff_ne.mpr c3
      obtain rfl := Option.some.inj H
      go_enter Tryd.func20, Tryd.ntmps20
      go_wp2
      go_ret
      exact ⟨by first | rfl | (simp; done) | (simp [*]; done), by repeat (first | exact Drawn0.refl _ | apply Drawn0.step)⟩

/-! ### record_plain: function 21 -/
def plainP (c : Nat) : Bool := decide (c < 32) || decide (c > 126)
def plainC (b : UInt8) : Bool := decide (32 ≤ b.toNat) && decide (b.toNat ≤ 126)
def plainL (l : List UInt8) : Bool := l.all plainC
/-- The sign that a byte begins may stand just where the byte may. -/
theorem plainP_decode (s : ByteArray) (i : Nat) (h : i < s.size) : plainP (Utf8.decode s i).1 = !plainC s[i] ∧ (plainC s[i] = true → (Utf8.decode s i).2 = 1) := by
  have hg : s.get! (i + 0) = s[i] := by
    rw [Nat.add_zero]
    cases s
    exact getElem!_pos _ i h
  have hb : s[i].toNat < 256 := s[i].toNat_lt
  unfold Utf8.decode
  simp only [hg]
  generalize s[i] = b at hb
  by_cases h0 : b.toNat < 128
  · rw [if_pos h0]
    refine ⟨?_, fun _ => rfl⟩
    unfold plainP plainC
    rw [Bool.eq_iff_iff]
    simp
    try omega
  · rw [if_neg h0]
    have hc : plainC b = false := by unfold plainC; simp; omega
    rw [hc]
    refine ⟨?_, fun h => by cases h⟩
    have big : ∀ n : Nat, 128 ≤ n → plainP n = !false := fun n hn => by unfold plainP; simp; omega
    have e1 : plainP Utf8.runeError = !false := big _ (by decide)
    repeat' split
    all_goals first
      | exact e1
      | (rename_i hh; refine big _ ?_; first | exact hh | (simp only [Bool.and_eq_true, decide_eq_true_eq] at hh; omega))
theorem idx_plain (s : ByteArray) : ∀ (d pos : Nat), s.size ≤ pos + d → (Lib.idxFuncFrom plainP true s d pos < 0 ↔ ∀ i (h : i < s.size), pos ≤ i → plainC s[i] = true)
  | 0, pos, hd => by
    simp only [Lib.idxFuncFrom]
    refine ⟨fun _ i h hp => by omega, fun _ => by decide⟩
  | d + 1, pos, hd => by
    simp only [Lib.idxFuncFrom]
    by_cases hp : pos < s.size
    · rw [if_pos hp]
      obtain ⟨e1, e2⟩ := plainP_decode s pos hp
      cases hc : plainC s[pos] with
      | false =>
        rw [hc] at e1
        rw [if_pos (by rw [e1]; rfl)]
        refine ⟨fun h => by omega, fun h => ?_⟩
        have := h pos hp (Nat.le_refl _)
        rw [hc] at this
        cases this
      | true =>
        rw [hc] at e1
        rw [if_neg (by rw [e1]; decide), e2 hc, idx_plain s d (pos + 1) (by omega)]
        refine ⟨fun h i hi hpi => ?_, fun h i hi hpi => h i hi (by omega)⟩
        by_cases he : pos = i
        · subst he; exact hc
        · exact h i hi (by omega)
    · rw [if_neg hp]
      refine ⟨fun _ i h hpi => by omega, fun _ => by decide⟩
theorem idx_plainL (s : ByteArray) : decide (Lib.idxFunc plainP true s < 0) = plainL s.data.toList := by
  have h := idx_plain s s.size 0 (by omega)
  have e : (∀ i (h : i < s.size), 0 ≤ i → plainC s[i] = true) ↔ plainL s.data.toList = true := by
    unfold plainL
    rw [List.all_eq_true]
    constructor
    · intro k x hx
      obtain ⟨i, hi, rfl⟩ := List.getElem_of_mem hx
      have hi' : i < s.size := by simpa using hi
      exact k i hi' (Nat.zero_le _)
    · intro k i hi _
      refine k _ ?_
      have : s[i] = s.data.toList[i]'(by simpa using hi) := by simp; rfl
      rw [this]
      exact List.getElem_mem _
  unfold Lib.idxFunc
  rw [Bool.eq_iff_iff, decide_eq_true_eq, h, e]
def record_plain.f (a0 : ByteArray) : Option Bool := some (plainL a0.data.toList)
theorem closure_plain (w : World) : PredAtRunes Tryd.prog 31 #[] plainP w := by
  intro W x hx hb
  unfold FnGives plainP encR
  by_cases h0 : x < 32
  · have hd : decide ((x : Int) < 32) = true := decide_eq_true (by omega)
    go_enter Tryd.func31, Tryd.ntmps31
    go_wp2
    go_ret
    exact ⟨by simp [h0], 0, rfl⟩
  · have hd : decide ((x : Int) < 32) = false := decide_eq_false (by omega)
    go_enter Tryd.func31, Tryd.ntmps31
    go_wp2
    go_ret
    exact ⟨by simp [h0]; omega, 0, rfl⟩
theorem record_plain.calls (a0 : ByteArray) (r : Bool) (w : World) (hT : Tabs w) (h : record_plain.f a0 = some r) :
    Calls Tryd.prog 21 #[.string a0] w fun e w' => e = .returned (.bool r) ∧ Below w.heap.size w w' := by
  obtain rfl := Option.some.inj h
  rw [← idx_plainL]
  have C := fun W => Tryd.strings_IndexFunc_runes 31 #[] (enters_of Tryd.func31 (by kernel_rfl) rfl) plainP a0 W (closure_plain W)
  obtain ⟨v, hv⟩ : ∃ v, v = Lib.idxFunc plainP true a0 := ⟨_, rfl⟩
  rw [← hv] at C ⊢
  go_enter Tryd.func21, Tryd.ntmps21
  go_wp2_with (go_at_call 30; (with_reducible refine (C _).mono ?_); rintro e w' ⟨rfl, hb⟩)
  go_ret
  exact ⟨by rw [hv]; rfl, hb⟩

/-! ### strings_Repeat: function 22 -/
def strings_Repeat.f (a0 : ByteArray) (a1 : Int) : Option ByteArray := if 0 ≤ a1 ∧ a1 ≤ 9223372036854775807 ∧ a0.size * a1.toNat ≤ 140737488355328 then some ⟨(Lib.repeatL a0.data.toList a1.toNat).toArray⟩ else none
theorem strings_Repeat.calls (a0 : ByteArray) (a1 : Int) (r : ByteArray) (w : World) (hT : Tabs w) (h : strings_Repeat.f a0 a1 = some r) :
    Calls Tryd.prog 22 #[.string a0, .int .i64 a1] w fun e w' => e = .returned (.string r) ∧ Below w.heap.size w w' := by
  unfold strings_Repeat.f at h
  by_cases h0 : 0 ≤ a1 ∧ a1 ≤ 9223372036854775807 ∧ a0.size * a1.toNat ≤ 140737488355328
  · rw [if_pos h0] at h
    obtain rfl := Option.some.inj h
    obtain ⟨c, rfl⟩ := Int.eq_ofNat_of_zero_le h0.1
    exact Tryd.strings_Repeat a0 c w (by omega) (by simpa using h0.2.2)
  · rw [if_neg h0] at h
    cases h

/-! ### strconv_Itoa: function 38 -/
def strconv_Itoa.f (a0 : Int) : Option ByteArray := if -9223372036854775808 ≤ a0 then (if a0 ≤ 9223372036854775807 then (some ⟨(Lib.itoa a0).toArray⟩) else none) else none
theorem strconv_Itoa.calls (a0 : Int) (r : ByteArray) (w : World) (hT : Tabs w) (h : strconv_Itoa.f a0 = some r) :
    Calls Tryd.prog 38 #[.int .i64 a0] w fun e w' => e = .returned (.string r) ∧ Below w.heap.size w w' := by
  unfold strconv_Itoa.f at h
  by_cases h0 : -9223372036854775808 ≤ a0
  · rw [if_pos h0] at h
    by_cases h1 : a0 ≤ 9223372036854775807
    · rw [if_pos h1] at h
      obtain rfl := Option.some.inj h
      exact (Tryd.strconv_Itoa a0 h0 h1 w hT.pow10).mono fun e w' ⟨he, k, os, hw⟩ => ⟨he, hw ▸ grow_below w k os⟩
    · rw [if_neg h1] at h
      cases h
  · rw [if_neg h0] at h
    cases h

/-! ### record_number: function 23 -/
def num8 (n : Nat) : List UInt8 := Lib.repeatL [48] (8 - (Lib.decDigits (n % 100000000)).length) ++ Lib.decDigits (n % 100000000)
theorem nDigits_of_lt : ∀ (k u : Nat), u < 10 ^ (k + 1) → Lib.nDigits u ≤ k + 1
  | 0, u, h => by rw [Lib.nDigits_small (by simpa using h)]; exact Nat.le_refl _
  | k + 1, u, h => by
    by_cases h1 : u < 10
    · rw [Lib.nDigits_small h1]; omega
    · rw [Nat.pow_succ] at h
      have := nDigits_of_lt k (u / 10) (by omega)
      rw [Lib.nDigits_big h1]; omega
theorem num8_fits (n : Nat) : (Lib.decDigits (n % 100000000)).length ≤ 8 := by
  rw [Lib.decDigits_length]
  exact nDigits_of_lt 7 _ (by omega)
theorem num8_length (n : Nat) : (num8 n).length = 8 := by
  have := num8_fits n
  unfold num8
  rw [List.length_append, Lib.repeatL_length]
  simp only [List.length_cons, List.length_nil]
  omega
def record_number.f (a0 : Int) : Option ByteArray := if 0 ≤ a0 ∧ a0 ≤ 9223372036854775807 then some ⟨(num8 a0.toNat).toArray⟩ else none
theorem record_number.calls (a0 : Int) (r : ByteArray) (w : World) (hT : Tabs w) (h : record_number.f a0 = some r) :
    Calls Tryd.prog 23 #[.int .i64 a0] w fun e w' => e = .returned (.string r) ∧ Below w.heap.size w w' := by
  unfold record_number.f at h
  by_cases h0 : 0 ≤ a0 ∧ a0 ≤ 9223372036854775807
  · rw [if_pos h0] at h
    obtain rfl := Option.some.inj h
    clear h
    obtain ⟨n, hn⟩ := Int.eq_ofNat_of_zero_le h0.1
    rw [show a0.toNat = n by omega]
    have hm : Int.tmod a0 100000000 = ((n % 100000000 : Nat) : Int) := by rw [Int.tmod_eq_emod_of_nonneg (by omega)]; omega
    have hf := num8_fits n
    obtain ⟨s, hs⟩ : ∃ s : ByteArray, s = ⟨(Lib.decDigits (n % 100000000)).toArray⟩ := ⟨_, rfl⟩
    have hl : s.size = (Lib.decDigits (n % 100000000)).length := by rw [hs]; simp [ByteArray.size]
    have C1 : ∀ W, Tabs W → Calls Tryd.prog 38 #[.int .i64 (Int.tmod a0 100000000)] W fun e w' => e = .returned (.string s) ∧ Below W.heap.size W w' := fun W hW => by
      refine strconv_Itoa.calls _ _ W hW ?_
      unfold strconv_Itoa.f
      rw [if_pos (by omega), if_pos (by omega), hm, hs]
      unfold Lib.itoa
      rw [if_neg (by omega), Int.toNat_natCast]
    obtain ⟨z, hz⟩ : ∃ z : ByteArray, z = ⟨(Lib.repeatL [48] (8 - s.size)).toArray⟩ := ⟨_, rfl⟩
    have hzl : z.size = 8 - s.size := by
      rw [hz]
      show (Lib.repeatL [48] (8 - s.size)).toArray.size = _
      rw [List.size_toArray, Lib.repeatL_length]
      exact Nat.mul_one _
    have e8 : wrap64 (8 - (s.size : Int)) = ((8 - s.size : Nat) : Int) := by unfold wrap64; omega
    have C2 : ∀ W, Tabs W → Calls Tryd.prog 22 #[.string ⟨#[48]⟩, .int .i64 (wrap64 (8 - (s.size : Int)))] W fun e w' => e = .returned (.string z) ∧ Below W.heap.size W w' := fun W hW => by
      refine strings_Repeat.calls _ _ _ W hW ?_
      unfold strings_Repeat.f
      rw [e8, if_pos ⟨by omega, by omega, by rw [Int.toNat_natCast]; show 1 * _ ≤ _; omega⟩, Int.toNat_natCast, hz]
    have er : (⟨(num8 n).toArray⟩ : ByteArray) = z ++ s := by
      rw [hz, hs]
      unfold num8
      rw [← hl, hs]
      apply ByteArray.ext
      simp [ByteArray.size]
    rw [er]
    have b1 : (9223372036854775807 < z.size + s.size) = False := eq_false (by omega)
    clear hs hz hm hf er e8 hn h0 hl hzl
    go_enter Tryd.func23, Tryd.ntmps23
    go_wp2_with (first | (go_at_call 38; (with_reducible refine (C1 _ ?side1).mono ?_); (case side1 => first | exact hT | exact hT.drew); rintro e w' ⟨rfl, hb⟩) | (go_at_call 22; (with_reducible refine (C2 _ ?side1).mono ?_); (case side1 => first | exact Tabs.below hT hb | exact (Tabs.below hT hb).drew); rintro e w'' ⟨rfl, hb2⟩))
    go_ret
    exact ⟨rfl, hb.trans (hb2.mono hb.size)⟩
  · rw [if_neg h0] at h
    cases h

end Go.Proofs.YtempfafkfkcelaaDoor.All
