/- What the laws lean on, part 6: texts of this claim, merged and cut to what is used. -/
import Derived.Laws.BitsLemmas
import Derived.Lib.RuneBytes
import Derived.Test.YtpkjiplgpgbheaaGreatDoorP145
import Derived.Test.YtpkjiplgpgbheaaGreatDoorP142
set_option linter.unusedVariables false
set_option linter.unusedSimpArgs false
set_option linter.unusedSectionVars false
namespace Go.Proofs.YtpkjiplgpgbheaaGreatDoor.V
open Go Go.RowKit Go.Proofs Go.Proofs.Ev Go.Proofs.YtpkjiplgpgbheaaGreatDoor Go.Proofs.YtpkjiplgpgbheaaGreatDoor.Ba
set_option maxHeartbeats 4000000
set_option maxRecDepth 100000
set_option linter.unusedSimpArgs false
set_option linter.unusedVariables false
theorem b192 : ∀ x : Nat, x < 32 → (BitVec.ofInt 8 192 ||| BitVec.ofInt 8 (x : Int)).toNat = 192 + x := by decide +kernel
theorem b224 : ∀ x : Nat, x < 16 → (BitVec.ofInt 8 224 ||| BitVec.ofInt 8 (x : Int)).toNat = 224 + x := by decide +kernel
theorem b240 : ∀ x : Nat, x < 8 → (BitVec.ofInt 8 240 ||| BitVec.ofInt 8 (x : Int)).toNat = 240 + x := by decide +kernel
theorem b63 : ∀ x : Nat, x < 256 → (BitVec.ofInt 8 128 ||| BitVec.ofInt 8 ((BitVec.ofInt 8 (x : Int) &&& BitVec.ofInt 8 63).toNat : Int)).toNat = 128 + x % 64 := by decide +kernel
theorem fd (r : Int) (k : Nat) (h : 0 ≤ r) : r.fdiv (2 ^ min k 32) = r / 2 ^ min k 32 := Int.fdiv_eq_ediv_of_nonneg _ (Int.le_of_lt (Int.pow_pos (by decide)))
theorem p6 : (2 : Int) ^ min 6 32 = 64 := by decide
theorem p12 : (2 : Int) ^ min 12 32 = 4096 := by decide
theorem p18 : (2 : Int) ^ min 18 32 = 262144 := by decide
/-- A byte of a rune behind its first one. -/
theorem tail_byte (r : Int) (h : 0 ≤ r) : ((BitVec.ofInt 8 128 ||| BitVec.ofInt 8 ((BitVec.ofInt 8 (IntKind.u8.wrap r) &&& BitVec.ofInt 8 63).toNat : Int)).toNat : Int) = 128 + r % 64 := by
  rw [IntKind.wrap_u8]
  have := b63 (r % 256).toNat (by omega)
  rw [Int.toNat_of_nonneg (by omega)] at this
  rw [this]
  omega
theorem head2 (r : Int) (h0 : 128 ≤ r) (h1 : r ≤ 2047) : ((BitVec.ofInt 8 192 ||| BitVec.ofInt 8 (IntKind.u8.wrap (r.fdiv (2 ^ min 6 32)))).toNat : Int) = 192 + r / 64 := by
  rw [IntKind.wrap_u8, fd r 6 (by omega), p6]
  have := b192 (r / 64).toNat (by omega)
  rw [Int.toNat_of_nonneg (by omega)] at this
  rw [Int.emod_eq_of_lt (by omega) (by omega), this]
  omega
theorem head3 (r : Int) (h0 : 2048 ≤ r) (h1 : r ≤ 65535) : ((BitVec.ofInt 8 224 ||| BitVec.ofInt 8 (IntKind.u8.wrap (r.fdiv (2 ^ min 12 32)))).toNat : Int) = 224 + r / 4096 := by
  rw [IntKind.wrap_u8, fd r 12 (by omega), p12]
  have := b224 (r / 4096).toNat (by omega)
  rw [Int.toNat_of_nonneg (by omega)] at this
  rw [Int.emod_eq_of_lt (by omega) (by omega), this]
  omega
theorem head4 (r : Int) (h0 : 65536 ≤ r) (h1 : r ≤ 1114111) : ((BitVec.ofInt 8 240 ||| BitVec.ofInt 8 (IntKind.u8.wrap (r.fdiv (2 ^ min 18 32)))).toNat : Int) = 240 + r / 262144 := by
  rw [IntKind.wrap_u8, fd r 18 (by omega), p18]
  have := b240 (r / 262144).toNat (by omega)
  rw [Int.toNat_of_nonneg (by omega)] at this
  rw [Int.emod_eq_of_lt (by omega) (by omega), this]
  omega
theorem eB_toNat (x : Int) (h0 : 0 ≤ x) (h1 : x < 256) : eB x.toNat.toUInt8 = [.int .u8 x] := by
  unfold eB
  have : (x.toNat.toUInt8.toNat : Int) = x := by simp; omega
  rw [this]
/-- The rows of a rune's bytes. -/
theorem eB_rune (l : List UInt8) (r : Int) : (l ++ Lib.encodeRune r).map eB = l.map eB ++ (Lib.encodeRuneZ r).map fun x => [PV.int .u8 x] := by
  unfold Lib.encodeRune
  rw [List.map_append, List.map_map]
  congr 1
  exact List.map_congr_left (fun x hx => by have := Lib.encodeRuneZ_byte r x hx; exact eB_toNat x this.1 this.2)
theorem rune_den (l : List UInt8) (r : Int) (hr : Lib.validRune r = true) (h7 : 128 ≤ r) (hl : l.length + 4 ≤ 140737488355328) : DenD Tryz.prog 231 [.own (.ext 0) 0 l.length, .int .i32 r] [bB l] (.own (.ext 0) 1 (l.length + (Lib.encodeRuneZ r).length)) [] [(1, some (bB (l ++ Lib.encodeRune r)))] := by
  have htk := take_eB l l.length rfl
  have hle : l.length ≤ (l.map eB).length := by simp
  have hv : r ≤ 1114111 ∧ (r < 55296 ∨ 57343 < r) := by
    unfold Lib.validRune at hr
    simp only [decide_eq_true_eq] at hr
    omega
  clear hr
  unfold bB
  rw [eB_rune]
  have t0 := tail_byte r (by omega)
  by_cases h2 : r ≤ 2047
  · rw [Lib.encodeRuneZ_two h7 h2]
    have e1 := head2 r h7 h2
    have g := Asd.mk (show [[PV.int .u8 ((BitVec.ofInt 8 192 ||| BitVec.ofInt 8 (IntKind.u8.wrap (r.fdiv (2 ^ min 6 32)))).toNat : Int)], [PV.int .u8 ((BitVec.ofInt 8 128 ||| BitVec.ofInt 8 ((BitVec.ofInt 8 (IntKind.u8.wrap r) &&& BitVec.ofInt 8 63).toNat : Int)).toNat : Int)]] = [[PV.int .u8 (192 + r / 64)], [PV.int .u8 (128 + r % 64)]] by rw [e1, t0])
    clear e1 t0
    (refine denD_walk mix Tryz.func231 rfl (by kernel_rfl) rfl [.tmp 4] rfl (by simp) ?_; simp only [bodyOf, Tryz.f231])
    (repeat refine stp ?_)
    (refine FD1 (hz0 := ?_); exact congrArg (fun z => some (Cont.rows true 5 1 (l.map eB ++ z))) g.out)
  have t1 := tail_byte (r.fdiv (2 ^ min 6 32)) (by rw [fd r 6 (by omega), p6]; omega)
  rw [show r.fdiv (2 ^ min 6 32) % 64 = r / 64 % 64 by rw [fd r 6 (by omega), p6]] at t1
  by_cases h3 : r ≤ 65535
  · rw [Lib.encodeRuneZ_three (by omega)]
    have e1 := head3 r (by omega) h3
    have g := Asd.mk (show [[PV.int .u8 ((BitVec.ofInt 8 224 ||| BitVec.ofInt 8 (IntKind.u8.wrap (r.fdiv (2 ^ min 12 32)))).toNat : Int)], [PV.int .u8 ((BitVec.ofInt 8 128 ||| BitVec.ofInt 8 ((BitVec.ofInt 8 (IntKind.u8.wrap (r.fdiv (2 ^ min 6 32))) &&& BitVec.ofInt 8 63).toNat : Int)).toNat : Int)], [PV.int .u8 ((BitVec.ofInt 8 128 ||| BitVec.ofInt 8 ((BitVec.ofInt 8 (IntKind.u8.wrap r) &&& BitVec.ofInt 8 63).toNat : Int)).toNat : Int)]] = [[PV.int .u8 (224 + r / 4096)], [PV.int .u8 (128 + r / 64 % 64)], [PV.int .u8 (128 + r % 64)]] by rw [e1, t1, t0])
    clear e1 t0 t1
    rcases hv.2 with hv | hv
    · (refine denD_walk mix Tryz.func231 rfl (by kernel_rfl) rfl [.tmp 4] rfl (by simp) ?_; simp only [bodyOf, Tryz.f231])
      (repeat refine stp ?_)
      (refine FD1 (hz0 := ?_); exact congrArg (fun z => some (Cont.rows true 5 1 (l.map eB ++ z))) g.out)
    · (refine denD_walk mix Tryz.func231 rfl (by kernel_rfl) rfl [.tmp 4] rfl (by simp) ?_; simp only [bodyOf, Tryz.f231])
      (repeat refine stp ?_)
      (refine FD1 (hz0 := ?_); exact congrArg (fun z => some (Cont.rows true 5 1 (l.map eB ++ z))) g.out)
  · rw [Lib.encodeRuneZ_four (by omega) hv.1]
    have e1 := head4 r (by omega) hv.1
    have t2 := tail_byte (r.fdiv (2 ^ min 12 32)) (by rw [fd r 12 (by omega), p12]; omega)
    rw [show r.fdiv (2 ^ min 12 32) % 64 = r / 4096 % 64 by rw [fd r 12 (by omega), p12]] at t2
    have g := Asd.mk (show [[PV.int .u8 ((BitVec.ofInt 8 240 ||| BitVec.ofInt 8 (IntKind.u8.wrap (r.fdiv (2 ^ min 18 32)))).toNat : Int)], [PV.int .u8 ((BitVec.ofInt 8 128 ||| BitVec.ofInt 8 ((BitVec.ofInt 8 (IntKind.u8.wrap (r.fdiv (2 ^ min 12 32))) &&& BitVec.ofInt 8 63).toNat : Int)).toNat : Int)], [PV.int .u8 ((BitVec.ofInt 8 128 ||| BitVec.ofInt 8 ((BitVec.ofInt 8 (IntKind.u8.wrap (r.fdiv (2 ^ min 6 32))) &&& BitVec.ofInt 8 63).toNat : Int)).toNat : Int)], [PV.int .u8 ((BitVec.ofInt 8 128 ||| BitVec.ofInt 8 ((BitVec.ofInt 8 (IntKind.u8.wrap r) &&& BitVec.ofInt 8 63).toNat : Int)).toNat : Int)]] = [[PV.int .u8 (240 + r / 262144)], [PV.int .u8 (128 + r / 4096 % 64)], [PV.int .u8 (128 + r / 64 % 64)], [PV.int .u8 (128 + r % 64)]] by rw [e1, t2, t1, t0])
    clear e1 t0 t1 t2
    (refine denD_walk mix Tryz.func231 rfl (by kernel_rfl) rfl [.tmp 4] rfl (by simp) ?_; simp only [bodyOf, Tryz.f231])
    (repeat refine stp ?_)
    (refine FD1 (hz0 := ?_); exact congrArg (fun z => some (Cont.rows true 5 1 (l.map eB ++ z))) g.out)
end Go.Proofs.YtpkjiplgpgbheaaGreatDoor.V
namespace Go.Proofs.YtpkjiplgpgbheaaGreatDoor.V
open Go Go.RowKit Go.Proofs Go.Proofs.Ev Go.Proofs.YtpkjiplgpgbheaaGreatDoor Go.Proofs.YtpkjiplgpgbheaaGreatDoor.Ba
set_option maxHeartbeats 4000000
set_option maxRecDepth 100000
set_option linter.unusedSimpArgs false
set_option linter.unusedVariables false
theorem loc1 {d : Option Nat} {b0 : Ev.Id} (h : ∀ j, b0 ≠ .loc (d.getD 0) j) : ∀ b ∈ [b0], ∀ j, b ≠ .loc (d.getD 0) j := fun b hb j => by rw [List.mem_singleton.1 hb]; exact h j
theorem encLen (r : Int) : (Lib.encodeRune r).length = (Lib.encodeRuneZ r).length := by unfold Lib.encodeRune; rw [List.length_map]
theorem arune_den (l : List UInt8) (r : Int) (hr : Lib.validRune r = true) (hl : l.length + 4 ≤ 140737488355328) : DenD Tryz.prog 168 [.own (.ext 0) 0 l.length, .int .i32 r] [bB l] (.own (.ext 0) 1 (l.length + (Lib.encodeRune r).length)) [] [(1, some (bB (l ++ Lib.encodeRune r)))] := by
  have htk := take_eB l l.length rfl
  have hle : l.length ≤ (l.map eB).length := by simp
  have hv : 0 ≤ r ∧ r ≤ 1114111 := by
    unfold Lib.validRune at hr
    simp only [decide_eq_true_eq] at hr
    omega
  by_cases h7 : r ≤ 127
  · have hap : (l ++ Lib.encodeRune r).map eB = l.map eB ++ [[.int .u8 r]] := by rw [eB_rune, Lib.encodeRuneZ_one hv.1 h7]; rfl
    have hen : (Lib.encodeRune r).length = 1 := by rw [encLen, Lib.encodeRuneZ_one hv.1 h7]; rfl
    unfold bB
    rw [hap, hen]
    clear hap hen hr
    (refine denD_walk mix Tryz.func168 rfl (by kernel_rfl) rfl [.tmp 4] rfl (by simp) ?_; simp only [bodyOf, Tryz.f168])
    (repeat refine stp ?_)
    exact FD1
  · have hR := rune_den l r hr (by omega) hl
    rw [← encLen] at hR
    have hz := Lib.encodeRuneZ_length r
    rw [← encLen] at hz
    have hlen : (l ++ Lib.encodeRune r).length = l.length + (Lib.encodeRune r).length := List.length_append
    generalize l ++ Lib.encodeRune r = q at *
    generalize (Lib.encodeRune r).length = z at *
    (refine denD_walk mix Tryz.func168 rfl (by kernel_rfl) rfl [.tmp 4] rfl (by simp) ?_; simp only [bodyOf, Tryz.f168])
    (repeat refine stp ?_)
    refine RX [.ext 0] hR ?_ (hloc := loc1 (by simp))
    (repeat refine stp ?_)
    exact FD1
theorem wrune_den (a : PV) (ha : Adr a) (l : List UInt8) (r : Int) (hr : Lib.validRune r = true) (hl : l.length + 4 ≤ 140737488355328) : DenD Tryz.prog 94 [.ptr (.ext 0) 0 0 0, .int .i32 r] [bS a (.ext 1) 0 l.length, bB l] (.tup [.int .i64 (Lib.encodeRune r).length, .nili]) [] [(0, some (bS (.ptr (.ext 0) 0 0 0) (.ext 1) 1 (l.length + (Lib.encodeRune r).length))), (1, some (bB (l ++ Lib.encodeRune r)))] := by
  have hC := copy_den a ha l.length l
  have hA := arune_den l r hr hl
  have htk := take_eB l l.length rfl
  have hle : l.length ≤ (l.map eB).length := by simp
  have hz := Lib.encodeRuneZ_length r
  rw [← encLen] at hz
  have e1 : ((l.length : Int) + ((Lib.encodeRune r).length : Int)) - (l.length : Int) = (Lib.encodeRune r).length := by omega
  have hle2 : l.length + (Lib.encodeRune r).length ≤ ((l ++ Lib.encodeRune r).map eB).length := by simp
  generalize l ++ Lib.encodeRune r = q at *
  generalize (Lib.encodeRune r).length = z at *
  rcases ha with rfl | rfl
  all_goals
    (refine denD_walk mix Tryz.func94 rfl (by kernel_rfl) rfl [.tmp 4, .tmp 5] rfl (by simp) ?_; simp only [bodyOf, Tryz.f94])
    (repeat refine stp ?_)
    refine RX [.ext 0, .ext 1] hC ?_
    (repeat refine stp ?_)
    refine RX [.ext 1] hA ?_ (hloc := loc1 (by simp))
    (repeat refine stp ?_)
    exact FD2
end Go.Proofs.YtpkjiplgpgbheaaGreatDoor.V
