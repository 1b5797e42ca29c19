/- What the laws lean on, part 5: texts of this claim, merged and cut to what is used. -/
import Derived.Test.YtpkjiplgpgbheaaGreatDoorP14EpSp3
import Derived.Test.YtpkjiplgpgbheaaGreatDoorP144
import Derived.Test.YtpkjiplgpgbheaaGreatDoorP142
set_option linter.unusedVariables false
set_option linter.unusedSimpArgs false
set_option linter.unusedSectionVars false
namespace Go.Proofs.YtpkjiplgpgbheaaGreatDoor.V
open Go Go.RowKit Go.Proofs Go.Proofs.Ev Go.Proofs.YtpkjiplgpgbheaaGreatDoor Go.Proofs.YtpkjiplgpgbheaaGreatDoor.Ba
set_option maxHeartbeats 4000000
set_option maxRecDepth 100000
set_option linter.unusedSimpArgs false
set_option linter.unusedVariables false
theorem copy_den1 (n : Nat) (l : List UInt8) : DenD Tryz.prog 167 [.ptr (.ext 0) 0 0 0] [.rows false 117 2 [[.ptr (.ext 0) 0 0 0, .own (.ext 1) 0 n]], .rows true 5 1 (l.map eB)] (.tup []) [] [(0, some (.rows false 117 2 [[.ptr (.ext 0) 0 0 0, .own (.ext 1) 0 n]])), (0, some (.rows true 5 1 (l.map eB)))] := by
  (refine denD_walk mix Tryz.func167 rfl (by kernel_rfl) rfl [] rfl (by simp) ?_; simp only [bodyOf, Tryz.f167])
  (repeat refine stp ?_)
  refine RO (.peq rfl Tryz.underlying115 rfl q_ q_ q_ Nat.zero_lt_one) ?_
  (repeat refine stp ?_)
  refine RO (.psame rfl Tryz.underlying115 (by decide +kernel) rfl q_ q_ q_ Nat.zero_lt_one) ?_
  (repeat refine stp ?_)
  exact FD2
/-- A builder's block: whether it was written, and its bytes' row. -/
abbrev bS (a : PV) (b : Ev.Id) (v n : Nat) : Cont := .rows false 117 2 [[a, .own b v n]]
abbrev bB (l : List UInt8) : Cont := .rows true 5 1 (l.map eB)
/-- The address in a builder that was handed in: nil, or its own. -/
def Adr (a : PV) : Prop := a = .nilp ∨ a = .ptr (.ext 0) 0 0 0
theorem copy_den (a : PV) (ha : Adr a) (n : Nat) (l : List UInt8) : DenD Tryz.prog 167 [.ptr (.ext 0) 0 0 0] [bS a (.ext 1) 0 n, bB l] (.tup []) [] [(0, some (bS (.ptr (.ext 0) 0 0 0) (.ext 1) 0 n)), (0, some (bB l))] := by
  rcases ha with rfl | rfl
  · exact copy_den0 _ _
  · exact copy_den1 n l
theorem take_eB (l : List UInt8) (n : Nat) (h : l.length = n) : (l.map eB).take n = l.map eB := List.take_of_length_le (by simp [h])
theorem wstr_den (a : PV) (ha : Adr a) (l : List UInt8) (s : ByteArray) (hl : l.length + s.size ≤ 140737488355328) : DenD Tryz.prog 92 [.ptr (.ext 0) 0 0 0, .str s] [bS a (.ext 1) 0 l.length, bB l] (.tup [.int .i64 s.size, .nili]) [] [(0, some (bS (.ptr (.ext 0) 0 0 0) (.ext 1) 1 (l.length + s.size))), (1, some (bB (l ++ s.data.toList)))] := by
  have hC := copy_den a ha l.length l
  have htk := take_eB l l.length rfl
  have hle : l.length ≤ (l.map eB).length := by simp
  have hap : (l ++ s.data.toList).map eB = l.map eB ++ byteRows s := by rw [List.map_append]; rfl
  unfold bB
  rw [hap]
  clear hap
  rcases ha with rfl | rfl
  all_goals
    (refine denD_walk mix Tryz.func92 rfl (by kernel_rfl) rfl [.tmp 4, .tmp 5] rfl (by simp) ?_; simp only [bodyOf, Tryz.f92])
    (repeat refine stp ?_)
    refine RX [.ext 0, .ext 1] hC ?_
    (repeat refine stp ?_)
    exact FD2
theorem bstr_den (a : PV) (ha : Adr a) (l : List UInt8) (h0 : 0 < l.length) : DenD Tryz.prog 81 [.ptr (.ext 0) 0 0 0] [bS a (.ext 1) 0 l.length, bB l] (.str (ba l)) [] [(1, none), (1, none)] := by
  have htk := take_eB l l.length rfl
  have hle : l.length ≤ (l.map eB).length := by simp
  (refine denD_walk mix Tryz.func81 rfl (by kernel_rfl) rfl [.tmp 2] rfl (by simp) ?_; simp only [bodyOf, Tryz.f81])
  (repeat refine stp ?_)
  refine DO (.sdata rfl q_ h0 q_) ?_
  (repeat refine stp ?_)
  refine DO (.ustr (l := l) rfl q_ q_ q_ q_ (by omega) h0 Tryz.underlying164 (by decide +kernel)) ?_
  (repeat refine stp ?_)
  exact FD2N
end Go.Proofs.YtpkjiplgpgbheaaGreatDoor.V
