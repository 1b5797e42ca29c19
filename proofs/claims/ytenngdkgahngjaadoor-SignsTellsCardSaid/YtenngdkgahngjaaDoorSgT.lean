/- Walks through the code of signs, by hand. -/
import Derived.Test.YtenngdkgahngjaaDoorGTabs
import Derived.Test.YtenngdkgahngjaaDoorWMore
import Derived.Lib.OthersKept
import Derived.WalkKit
import Derived.BigCall
import Derived.KernelRfl
import Derived.Below
import Derived.Test.YtenngdkgahngjaaDoorGShelf
import Derived.Lib.TrimU
import Derived.Laws.Slices
import Derived.Laws.Cover4
import Derived.Laws.BitsAllLaws
import Derived.Laws.BytesArg
import Derived.Lib.LazyBuf
import Derived.Lib.IfaceEq
namespace Go.Proofs.YtenngdkgahngjaaDoor.All
open Go.RowKit Go.Proofs.YtenngdkgahngjaaDoorW.PrintWords Go.Proofs.YtenngdkgahngjaaDoorW.PrintLast Go.Proofs.YtenngdkgahngjaaDoorW.PrintMore Go.Proofs.YtenngdkgahngjaaDoor.G
set_option linter.unusedVariables false
set_option linter.unusedSimpArgs false
set_option maxHeartbeats 4000000
set_option maxRecDepth 1000000
def farL : List UInt8 := [226, 134, 144, 226, 134, 146, 226, 141, 180, 226, 141, 179, 226, 141, 181, 226, 141, 186, 226, 136, 135, 226, 136, 134, 226, 141, 153, 226, 142, 149, 226, 141, 158, 194, 175, 195, 151, 195, 183, 226, 137, 164, 226, 137, 165, 226, 137, 160, 226, 136, 167, 226, 136, 168, 226, 136, 138, 226, 140, 136, 226, 140, 138, 226, 136, 152, 226, 151, 139, 226, 141, 159, 226, 140, 189, 226, 141, 137, 226, 138, 130, 226, 138, 131, 226, 136, 169, 226, 136, 170, 226, 141, 146, 226, 141, 139, 226, 141, 142, 226, 141, 149, 226, 140, 185, 226, 141, 177, 226, 141, 178, 226, 138, 165, 226, 138, 164, 226, 139, 132, 226, 141, 157, 194, 168]
def farB : ByteArray := ⟨#[226, 134, 144, 226, 134, 146, 226, 141, 180, 226, 141, 179, 226, 141, 181, 226, 141, 186, 226, 136, 135, 226, 136, 134, 226, 141, 153, 226, 142, 149, 226, 141, 158, 194, 175, 195, 151, 195, 183, 226, 137, 164, 226, 137, 165, 226, 137, 160, 226, 136, 167, 226, 136, 168, 226, 136, 138, 226, 140, 136, 226, 140, 138, 226, 136, 152, 226, 151, 139, 226, 141, 159, 226, 140, 189, 226, 141, 137, 226, 138, 130, 226, 138, 131, 226, 136, 169, 226, 136, 170, 226, 141, 146, 226, 141, 139, 226, 141, 142, 226, 141, 149, 226, 140, 185, 226, 141, 177, 226, 141, 178, 226, 138, 165, 226, 138, 164, 226, 139, 132, 226, 141, 157, 194, 168]⟩
def nearB : ByteArray := ⟨#[108, 114, 112, 105, 119, 97, 103, 116, 84, 113, 81, 45, 120, 47, 60, 62, 61, 94, 118, 101, 117, 100, 111, 79, 42, 102, 121, 99, 67, 110, 85, 71, 72, 88, 70, 68, 86, 65, 98, 66, 59, 35, 58]⟩
def nearL : List Nat := [108, 114, 112, 105, 119, 97, 103, 116, 84, 113, 81, 45, 120, 47, 60, 62, 61, 94, 118, 101, 117, 100, 111, 79, 42, 102, 121, 99, 67, 110, 85, 71, 72, 88, 70, 68, 86, 65, 98, 66, 59, 35, 58]
def farR : List Nat := [8592, 8594, 9076, 9075, 9077, 9082, 8711, 8710, 9049, 9109, 9054, 175, 215, 247, 8804, 8805, 8800, 8743, 8744, 8714, 8968, 8970, 8728, 9675, 9055, 9021, 9033, 8834, 8835, 8745, 8746, 9042, 9035, 9038, 9045, 9017, 9073, 9074, 8869, 8868, 8900, 9053, 168]
def farO : List Nat := [0, 3, 6, 9, 12, 15, 18, 21, 24, 27, 30, 33, 35, 37, 39, 42, 45, 48, 51, 54, 57, 60, 63, 66, 69, 72, 75, 78, 81, 84, 87, 90, 93, 96, 99, 102, 105, 108, 111, 114, 117, 120, 123, 125]
theorem far_step : ∀ k : Fin 43, Utf8.decode farB (farO.getD k.val 0) = (farR.getD k.val 0, farO.getD (k.val + 1) 0 - farO.getD k.val 0) ∧ farO.getD k.val 0 < farO.getD (k.val + 1) 0 ∧ farO.getD k.val 0 < 125 := by decide +kernel
theorem far_size : farB.size = 125 := by decide +kernel
theorem far_end : farO.getD 43 0 = 125 := rfl
theorem near_at : ∀ k : Fin 43, ∀ h : k.val < nearB.size, (nearB[k.val]'h).toNat = nearL.getD k.val 0 := by decide +kernel
structure Byts (w : World) (b : Nat) (l : List UInt8) : Prop where
  cell : ∀ j, j < l.length → w.cell? ⟨b, j, none⟩ = some (.int .u8 ((l[j]?.getD 0).toNat : Int))
  frozen : ∀ j, j < l.length → w.frozen? ⟨b, j, none⟩ = false
theorem Byts.set {w : World} {b : Nat} {l : List UInt8} (h : Byts w b l) (i : Nat) (x : UInt8) : Byts (w.setCell ⟨b, i, none⟩ (.int .u8 (x.toNat : Int))) b (l.set i x) := by
  refine ⟨fun j hj => ?_, fun j hj => by rw [World.frozen?_setCell]; exact h.frozen j (by simpa using hj)⟩
  rw [List.length_set] at hj
  by_cases e : i = j
  · subst e
    rw [World.cell?_setCell_same _ _ _ (h.cell i hj), List.getElem?_set_self hj]
    rfl
  · rw [World.cell?_setCell_other _ _ _ _ (by intro k; cases k; exact e rfl), List.getElem?_set_ne e]
    exact h.cell j hj
/-- Digits of base 16. -/
def hexDig (d : Nat) : UInt8 := if d < 10 then UInt8.ofNat (48 + d) else UInt8.ofNat (87 + d)
def hexD (u : Nat) : List UInt8 := if h : u < 16 then [hexDig u] else hexD (u / 16) ++ [hexDig (u % 16)]
end Go.Proofs.YtenngdkgahngjaaDoor.All
