/- Byte arrays as lists, whole numbers' range, rounds. Nothing of the program. -/
import Derived.Lib.Strings
import Derived.RowKit
import Derived.Test.YtfdeheodjkpkkaaGreatDoorP18WWords
set_option linter.unusedVariables false
set_option linter.unusedSimpArgs false
set_option linter.unusedSectionVars false
namespace Go.Proofs.YtfdeheodjkpkkaaGreatDoor.Ba
open Go.Lib Go.RowKit Go.Proofs.YtfdeheodjkpkkaaGreatDoorW.PrintWords

def I (n : Int) : Prop := -9223372036854775808 ≤ n ∧ n ≤ 9223372036854775807
theorem wrapI {n : Int} (h : I n) : wrap64 n = n := by unfold wrap64; unfold I at h; omega
theorem wrap_I (n : Int) : I (wrap64 n) := by unfold wrap64 I; omega
theorem I_of_wf {n : Int} (h : (Lit.int .i64 n).wf = true) : I n := by
  have : IntKind.i64.min ≤ n ∧ n ≤ IntKind.i64.max := by simpa [Lit.wf] using h
  unfold I
  simpa [IntKind.min, IntKind.max, IntKind.signed, IntKind.bits] using this

/-- Bytes of a list. -/
def ba (l : List UInt8) : ByteArray := ⟨l.toArray⟩
theorem ba_data (l : List UInt8) : (ba l).data.toList = l := by simp [ba]
theorem ba_self (s : ByteArray) : ba s.data.toList = s := by simp [ba]
theorem toList_eq (s : ByteArray) : s.toList = s.data.toList := by
  have h := extract_toList s 0 s.size
  have h2 := extract_data s 0 s.size
  have e : s.extract 0 s.size = s := by
    rw [← ba_self (s.extract 0 s.size), h2]
    rw [List.drop_zero, Nat.sub_zero, List.take_of_length_le (by rw [size_eq]; exact Nat.le_refl _), ba_self]
  rw [e] at h h2
  rw [h, List.drop_zero, Nat.sub_zero, List.take_of_length_le (by rw [size_eq]; exact Nat.le_refl _)]
theorem ba_size (l : List UInt8) : (ba l).size = l.length := by rw [size_eq, ba_data]
theorem size_data (s : ByteArray) : s.size = s.data.toList.length := size_eq s
theorem data_inj {s t : ByteArray} (h : s.data.toList = t.data.toList) : s = t := by rw [← ba_self s, h, ba_self]

theorem Ev.const {α : Type} {g : Nat → Option α} {r : α} (h : ∀ k, g k = some r) : Ev g r := ⟨0, fun k _ => h k⟩
theorem Ev.at_ {α : Type} {g : Nat → Option α} {r : α} (h : Ev g r) : ∃ k, g k = some r := h.rounds
/-- A call without rounds. -/
theorem Ev.bind0 {α β : Type} {g : Option α} {f : Nat → α → Option β} {a : α} {r : β} (h : g = some a) (k : Ev (fun n => f n a) r) : Ev (fun n => g.bind fun x => f n x) r := by
  subst h
  exact k
theorem Ev.if_pos {α : Type} {c : Prop} [Decidable c] {g f : Nat → Option α} {r : α} (h : c) (k : Ev g r) : Ev (fun n => if c then g n else f n) r := k.congr fun _ => _root_.if_pos h
theorem Ev.if_neg {α : Type} {c : Prop} [Decidable c] {g f : Nat → Option α} {r : α} (h : ¬ c) (k : Ev f r) : Ev (fun n => if c then g n else f n) r := k.congr fun _ => _root_.if_neg h
end Go.Proofs.YtfdeheodjkpkkaaGreatDoor.Ba
