/- What the library's package-level variables hold in a world, as the rows list them; it stays under Below. Written by wip/tools/gtabs.py. -/
import Derived.Test.YtpkjiplgpgbheaaGreatDoorProg
import Derived.Below
import Derived.KernelRfl
import Derived.Lib.LaidTab
import Derived.Lib.SmallJoins
import Derived.Laws.Strings
import Derived.Tactics
import Derived.Lib.ItoaMem
import Derived.Lib.AppendIntMem
import Derived.Shelf.Unicode.DecodeSlow
set_option linter.unusedVariables false
set_option linter.unusedSimpArgs false
set_option linter.unusedSectionVars false
namespace Go.Proofs.YtpkjiplgpgbheaaGreatDoor.G
open Go.RowKit
theorem gPow10 : Tryz.prog.globalNamed "internal/strconv.uint64pow10" = some 3 := by kernel_rfl
theorem cell_stays {w w1 : World} {a : Addr} {v : Value} (h : w.cell? a = some v) (hb : Below w.heap.size w w1) : w1.cell? a = some v := (hb.cell (World.block_lt_of_cell? w a h)).trans h
structure Tabs (w : World) : Prop where
  pow10 : Lib.TabIs Tryz.prog w "internal/strconv.uint64pow10" .u64 Lib.pow10Tab
  tz : w.cell? ⟨7, 15, none⟩ = some (.int .u8 4)
  errS : ∃ te pe, w.cell? ⟨4, 0, none⟩ = some (.iface te pe)
  errR : ∃ te pe, w.cell? ⟨5, 0, none⟩ = some (.iface te pe)
  utf8 : Lib.Utf8Tabs 0 1 w
  maxlen : ∃ m, w.cell? ⟨2, 0, none⟩ = some (.int .i64 m)
theorem Tabs.below {w w1 : World} (h : Tabs w) (hb : Below w.heap.size w w1) : Tabs w1 :=
  { pow10 := Joins.tab_stays gPow10 h.pow10 hb (Nat.le_refl _),
    tz := cell_stays h.tz hb,
    errS := h.errS.elim fun te h1 => h1.elim fun pe h2 => ⟨te, pe, cell_stays h2 hb⟩,
    errR := h.errR.elim fun te h1 => h1.elim fun pe h2 => ⟨te, pe, cell_stays h2 hb⟩,
    utf8 := ⟨fun c hc => cell_stays (h.utf8.1 c hc) hb, fun i hi => ⟨cell_stays (h.utf8.2 i hi).1 hb, cell_stays (h.utf8.2 i hi).2 hb⟩⟩,
    maxlen := h.maxlen.elim fun m h1 => ⟨m, cell_stays h1 hb⟩ }
theorem drew_below (w : World) : Below w.heap.size w w.drew := (Below.refl _ _).drew
theorem Tabs.drew {w : World} (h : Tabs w) : Tabs w.drew := h.below (drew_below w)
theorem Tabs.drewN {w : World} (h : Tabs w) (n : Nat) : Tabs (w.drewN n) := by
  induction n with
  | zero => exact h
  | succ n ih => rw [← World.drew_drewN]; exact ih.drew
theorem grow_below (w : World) (k : Nat) (os : Array Obj) : Below w.heap.size w (Sort.grow (w.drewN k) os) := Lib.below_grow _ w (Nat.le_refl _) k os
end Go.Proofs.YtpkjiplgpgbheaaGreatDoor.G
