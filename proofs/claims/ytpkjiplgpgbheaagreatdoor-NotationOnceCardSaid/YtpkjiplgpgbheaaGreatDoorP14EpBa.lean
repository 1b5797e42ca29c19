/- Byte arrays as lists, whole numbers' range, rounds. Nothing of the program. -/
import Derived.Lib.Strings
import Derived.RowKit
set_option linter.unusedVariables false
set_option linter.unusedSimpArgs false
set_option linter.unusedSectionVars false
namespace Go.Proofs.YtpkjiplgpgbheaaGreatDoor.Ba
open Go.Lib Go.RowKit

def I (n : Int) : Prop := -9223372036854775808 ≤ n ∧ n ≤ 9223372036854775807
theorem wrapI {n : Int} (h : I n) : wrap64 n = n := by unfold wrap64; unfold I at h; omega
theorem wrap_I (n : Int) : I (wrap64 n) := by unfold wrap64 I; omega
/-- Bytes of a list. -/
def ba (l : List UInt8) : ByteArray := ⟨l.toArray⟩
theorem ba_data (l : List UInt8) : (ba l).data.toList = l := by simp [ba]
theorem ba_self (s : ByteArray) : ba s.data.toList = s := by simp [ba]
theorem toList_eq (s : ByteArray) : s.toList = s.data.toList := by
  have h := extract_toList s 0 s.size
  have h2 := extract_data s 0 s.size
  have e : s.extract 0 s.size = s := by
    rw [← ba_self (s.extract 0 s.size), h2]
    rw [List.drop_zero, Nat.sub_zero, List.take_of_length_le (by rw [size_eq]; exact Nat.le_refl _), ba_self]
  rw [e] at h h2
  rw [h, List.drop_zero, Nat.sub_zero, List.take_of_length_le (by rw [size_eq]; exact Nat.le_refl _)]
theorem ba_toList (l : List UInt8) : (ba l).toList = l := by rw [toList_eq, ba_data]
theorem ba_size (l : List UInt8) : (ba l).size = l.length := by rw [size_eq, ba_data]
theorem ba_append (l r : List UInt8) : ba l ++ ba r = ba (l ++ r) := by
  rw [← ba_self (ba l ++ ba r)]
  simp [ba]
theorem size_data (s : ByteArray) : s.size = s.data.toList.length := size_eq s
theorem data_inj {s t : ByteArray} (h : s.data.toList = t.data.toList) : s = t := by rw [← ba_self s, h, ba_self]

end Go.Proofs.YtpkjiplgpgbheaaGreatDoor.Ba
