/- The tables and variables of Go's library, out of the row's own condition. Written by wip/tools/grow.py. -/
import Derived.Test.YtpkjiplgpgbheaaGreatDoorRows
import Derived.Test.YtpkjiplgpgbheaaGreatDoorP14GTabs
import Derived.Lib.LaidU8
import Derived.Lib.LaidTab
import Derived.MakeChecks
import Derived.Lay
import Derived.Stop.LaidErr
import Derived.Deep.DeepHandedRow
import Derived.ProofKit
import Derived.WalkKit
import Derived.SliceStrings
import Derived.PinnedBridge
import Derived.Lib.LaidU8T
import Derived.Lib.TrailingZeros
import Derived.Shelf.Vars
set_option linter.unusedVariables false
set_option linter.unusedSimpArgs false
set_option linter.unusedSectionVars false
namespace Go.Proofs.YtpkjiplgpgbheaaGreatDoor.G
open Go.ChangeShapes Go.WideShapes Go.ChangeAt Go.RowKit
theorem own : ownKnob Tryz.prog.godebug = none := by kernel_rfl
theorem laidOut : laidOutB Tryz.prog = true := by kernel_rfl
def laidL : List (String × DataW Unit) := [("math/bits.deBruijn32tab", Rows.laid_math_bits_deBruijn32tab), ("math/bits.deBruijn64tab", Rows.laid_math_bits_deBruijn64tab), ("internal/strconv.uint64pow10", Rows.laid_internal_strconv_uint64pow10), ("unicode/utf8.acceptRanges", Rows.laid_unicode_utf8_acceptRanges), ("strconv.ErrRange", Rows.laid_strconv_ErrRange), ("strconv.ErrSyntax", Rows.laid_strconv_ErrSyntax), ("unicode/utf8.first", Rows.laid_unicode_utf8_first)]
theorem iface_of_reads {w : World} {n nm : String} {d : DataW Unit} {g ti : Nat} {ms : Array (String × TypeId)} (h : Lib.VarReads Tryz.prog w n (.iface nm d)) (hg : Tryz.prog.globalNamed n = some g) (ht : (Tryz.prog.globals[g]?).map (·.type) = some ti) (hi : Tryz.prog.underlying ti = some (.interface ms)) : ∃ te pe, w.cell? ⟨g, 0, none⟩ = some (.iface te pe) := by
  obtain ⟨g', t, cs, fuel, p, hg', hty, hvar, hd⟩ := h
  obtain rfl := Option.some.inj (hg.symm.trans hg')
  obtain rfl := Option.some.inj (ht.symm.trans hty)
  cases fuel with
  | zero => simp [DataW.trod] at hd
  | succ fuel =>
    obtain ⟨l⟩ := cs
    rcases l with _ | ⟨c, _ | ⟨c2, l⟩⟩
    · simp [DataW.trod, hi] at hd
    · cases c <;> simp [DataW.trod, hi] at hd
      case iface te pe =>
        have := World.var?_cell hg hvar 0
        exact ⟨te, pe, by simpa using this⟩
    · simp [DataW.trod, hi] at hd
theorem tab_of_reads {w : World} {n : String} {k : IntKind} {zs : List Int} {g t e m : Nat} (h : Lib.VarReads Tryz.prog w n (Lib.tabData k zs)) (hg : Tryz.prog.globalNamed n = some g) (hty : (Tryz.prog.globals[g]?).map (·.type) = some t) (ht : Tryz.prog.underlying t = some (.array m e)) (he : Tryz.prog.underlying e = some (.int k)) (hce : Tryz.prog.cellsOf e = 1) (hct : Tryz.prog.cellsOf t = m) : Lib.TabIs Tryz.prog w n k zs := by
  obtain ⟨g', t', cs, fuel, p, hg', hty', hvar, hd⟩ := h
  obtain rfl := Option.some.inj (hg.symm.trans hg')
  obtain rfl := Option.some.inj (hty.symm.trans hty')
  unfold Lib.TabIs
  rw [hvar, ← Lib.cells_of_tab ht he hce hct hd]
theorem cell_of_tab {w : World} {n : String} {k : IntKind} {zs : List Int} {g : Nat} (ht : Lib.TabIs Tryz.prog w n k zs) (hg : Tryz.prog.globalNamed n = some g) (i : Nat) (z : Int) (hz : zs[i]? = some z) : w.cell? ⟨g, i, none⟩ = some (.int k z) := by
  rw [World.var?_cell hg ht i]
  simp [hz]
def u8ren : Go.Shelf.Ren := { f := fun x => x, t := fun k => if k = 5 then 5 else if k = 119 then 245 else if k = 138 then 247 else if k = 139 then 248 else 0, g := fun k => if k = 3 then 0 else if k = 4 then 1 else 0 }
theorem utf8_of_reads {w : World} (h3 : Lib.VarReads Tryz.prog w "unicode/utf8.first" Rows.laid_unicode_utf8_first) (h4 : Lib.VarReads Tryz.prog w "unicode/utf8.acceptRanges" Rows.laid_unicode_utf8_acceptRanges) : Lib.Utf8Tabs 0 1 w := by
  rw [show Rows.laid_unicode_utf8_first = Lib.firstData from Pinned.utf8First_eq] at h3
  rw [show (Rows.laid_unicode_utf8_acceptRanges : DataW Unit) = Lib.acceptData by kernel_rfl] at h4
  exact utf8Tabs_of_readsT (P := Tryz.prog) (ρ := u8ren) ⟨by kernel_rfl, by kernel_rfl, by kernel_rfl, by kernel_rfl⟩ ⟨by kernel_rfl, by kernel_rfl, by kernel_rfl, by kernel_rfl, by kernel_rfl, by kernel_rfl, by kernel_rfl⟩ h3 h4
theorem maxlen_of_shape {w : World} (h : w.ShapedOpen Tryz.prog) : ∃ m, w.cell? ⟨2, 0, none⟩ = some (.int .i64 m) :=
  cell_of_shapedOpen_int (zero := #[.int .i64 0]) (t := 3) h (of_decide_eq_true (by kernel_rfl)) (by kernel_rfl) rfl (by kernel_rfl) (by kernel_rfl) Tryz.underlying3
theorem tabs_of {w : World} (hL : laidMetH Tryz.prog laidL w) (hsh : w.ShapedOpen Tryz.prog) : Tabs w := by
  rw [MakeChecks.laidMetH_plain _ _ _ (by kernel_rfl)] at hL
  have R : ∀ n d, (n, d) ∈ laidL → Lib.VarReads Tryz.prog w n d := fun n d hm => Lib.laidMet.reads hL hm
  exact {
    pow10 := tab_of_reads (zs := Lib.pow10Tab) (k := .u64) (t := 261) (e := 92) (m := 20) (by have h := R "internal/strconv.uint64pow10" Rows.laid_internal_strconv_uint64pow10 (by simp [laidL]); rwa [show (Rows.laid_internal_strconv_uint64pow10 : DataW Unit) = Lib.tabData .u64 Lib.pow10Tab by kernel_rfl] at h) gPow10 (by kernel_rfl) Tryz.underlying261 Tryz.underlying92 (by kernel_rfl) (by kernel_rfl),
    tz := cell_of_tab (zs := Lib.deBruijn64tab.map Int.ofNat) (k := .u8) (by exact tab_of_reads (zs := Lib.deBruijn64tab.map Int.ofNat) (k := .u8) (t := 279) (e := 5) (m := 64) (by have h := R "math/bits.deBruijn64tab" Rows.laid_math_bits_deBruijn64tab (by simp [laidL]); rwa [show (Rows.laid_math_bits_deBruijn64tab : DataW Unit) = Lib.tabData .u8 (Lib.deBruijn64tab.map Int.ofNat) by kernel_rfl] at h) (by kernel_rfl : Tryz.prog.globalNamed "math/bits.deBruijn64tab" = some 7) (by kernel_rfl) Tryz.underlying279 Tryz.underlying5 (by kernel_rfl) (by kernel_rfl)) (by kernel_rfl) 15 4 rfl,
    errS := iface_of_reads (R "strconv.ErrSyntax" Rows.laid_strconv_ErrSyntax (by simp [laidL])) (by kernel_rfl) (ti := 127) (by kernel_rfl) Tryz.underlying127,
    errR := iface_of_reads (R "strconv.ErrRange" Rows.laid_strconv_ErrRange (by simp [laidL])) (by kernel_rfl) (ti := 127) (by kernel_rfl) Tryz.underlying127,
    utf8 := utf8_of_reads (R "unicode/utf8.first" Rows.laid_unicode_utf8_first (by simp [laidL])) (R "unicode/utf8.acceptRanges" Rows.laid_unicode_utf8_acceptRanges (by simp [laidL])),
    maxlen := maxlen_of_shape hsh }
end Go.Proofs.YtpkjiplgpgbheaaGreatDoor.G
