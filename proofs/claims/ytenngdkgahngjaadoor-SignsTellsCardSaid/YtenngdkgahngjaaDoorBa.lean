/- Byte arrays as lists, whole numbers' range, rounds. Nothing of the program. -/
import Derived.Lib.Strings
import Derived.RowKit
import Derived.Test.YtenngdkgahngjaaDoorWWords
namespace Go.Proofs.YtenngdkgahngjaaDoor.Ba
open Go.Lib Go.RowKit Go.Proofs.YtenngdkgahngjaaDoorW.PrintWords

def I (n : Int) : Prop := -9223372036854775808 ≤ n ∧ n ≤ 9223372036854775807
theorem wrapI {n : Int} (h : I n) : wrap64 n = n := by unfold wrap64; unfold I at h; omega
theorem wrap_I (n : Int) : I (wrap64 n) := by unfold wrap64 I; omega
theorem I_of_wf {n : Int} (h : (Lit.int .i64 n).wf = true) : I n := by
  have : IntKind.i64.min ≤ n ∧ n ≤ IntKind.i64.max := by simpa [Lit.wf] using h
  unfold I
  simpa [IntKind.min, IntKind.max, IntKind.signed, IntKind.bits] using this

/-- Bytes of a list. -/
def ba (l : List UInt8) : ByteArray := ⟨l.toArray⟩
theorem ba_data (l : List UInt8) : (ba l).data.toList = l := by simp [ba]
theorem ba_self (s : ByteArray) : ba s.data.toList = s := by simp [ba]
theorem toList_eq (s : ByteArray) : s.toList = s.data.toList := by
  have h := extract_toList s 0 s.size
  have h2 := extract_data s 0 s.size
  have e : s.extract 0 s.size = s := by
    rw [← ba_self (s.extract 0 s.size), h2]
    rw [List.drop_zero, Nat.sub_zero, List.take_of_length_le (by rw [size_eq]; exact Nat.le_refl _), ba_self]
  rw [e] at h h2
  rw [h, List.drop_zero, Nat.sub_zero, List.take_of_length_le (by rw [size_eq]; exact Nat.le_refl _)]
theorem ba_toList (l : List UInt8) : (ba l).toList = l := by rw [toList_eq, ba_data]
theorem ba_size (l : List UInt8) : (ba l).size = l.length := by rw [size_eq, ba_data]
theorem ba_append (l r : List UInt8) : ba l ++ ba r = ba (l ++ r) := by
  rw [← ba_self (ba l ++ ba r)]
  simp [ba]
theorem ba_extract (l : List UInt8) (a b : Nat) : (ba l).extract a b = ba ((l.drop a).take (b - a)) := by
  rw [← ba_self ((ba l).extract a b), extract_data, ba_data]
theorem ba_bt (l : List UInt8) (i : Nat) (h : i < l.length) : bt (ba l) (i : Int) = (l[i].toNat : Int) := by
  unfold bt
  have h1 : (i : Int).toNat = i := by simp
  have h2 : ((i : Int).toNat) < (ba l).size := by rw [h1, ba_size]; exact h
  rw [dif_pos h2]
  congr 1
theorem lit_ba (l : List UInt8) : (⟨l.toArray⟩ : ByteArray) = ba l := rfl
theorem size_data (s : ByteArray) : s.size = s.data.toList.length := size_eq s
theorem eq_ba (s : ByteArray) : s = ba s.data.toList := (ba_self s).symm
theorem data_inj {s t : ByteArray} (h : s.data.toList = t.data.toList) : s = t := by rw [← ba_self s, h, ba_self]

theorem Ev.const {α : Type} {g : Nat → Option α} {r : α} (h : ∀ k, g k = some r) : Ev g r := ⟨0, fun k _ => h k⟩
theorem Ev.at_ {α : Type} {g : Nat → Option α} {r : α} (h : Ev g r) : ∃ k, g k = some r := h.rounds
/-- A call, then what follows, told for the answer alone. -/
theorem Ev.bind' {α β : Type} {g : Nat → Option α} {f : Nat → α → Option β} {a : α} {r : β} (h : Ev g a) (k : Ev (fun n => f n a) r) : Ev (fun n => (g n).bind fun x => f n x) r := Ev.bind h k
/-- A call without rounds. -/
theorem Ev.bind0 {α β : Type} {g : Option α} {f : Nat → α → Option β} {a : α} {r : β} (h : g = some a) (k : Ev (fun n => f n a) r) : Ev (fun n => g.bind fun x => f n x) r := by
  subst h
  exact k
theorem Ev.if_pos {α : Type} {c : Prop} [Decidable c] {g f : Nat → Option α} {r : α} (h : c) (k : Ev g r) : Ev (fun n => if c then g n else f n) r := k.congr fun _ => _root_.if_pos h
theorem Ev.if_neg {α : Type} {c : Prop} [Decidable c] {g f : Nat → Option α} {r : α} (h : ¬ c) (k : Ev f r) : Ev (fun n => if c then g n else f n) r := k.congr fun _ => _root_.if_neg h
theorem Ev.unique {α : Type} {g : Nat → Option α} {r q : α} (h : Ev g r) (h' : Ev g q) : r = q := by
  obtain ⟨K, h⟩ := h
  obtain ⟨K', h'⟩ := h'
  have a := h (max K K') (Nat.le_max_left _ _)
  have b := h' (max K K') (Nat.le_max_right _ _)
  rw [a] at b
  exact Option.some.inj b
end Go.Proofs.YtenngdkgahngjaaDoor.Ba
