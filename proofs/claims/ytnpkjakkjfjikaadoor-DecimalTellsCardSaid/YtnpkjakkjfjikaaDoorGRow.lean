/- The tables and variables of Go's library, out of the row's own condition. Written by wip/tools/grow.py. -/
import Derived.Test.YtnpkjakkjfjikaaDoorRows
import Derived.Test.YtnpkjakkjfjikaaDoorGTabs
import Derived.Lib.LaidU8
import Derived.Lib.LaidTab
import Derived.MakeChecks
import Derived.Lay
import Derived.Stop.LaidErr
import Derived.Deep.DeepHandedRow
import Derived.ProofKit
import Derived.WalkKit
import Derived.Shelf.Vars
namespace Go.Proofs.YtnpkjakkjfjikaaDoor.G
open Go.ChangeShapes Go.WideShapes Go.ChangeAt Go.RowKit
theorem own : ownKnob Tryd.prog.godebug = none := by kernel_rfl
theorem laidOut : laidOutB Tryd.prog = true := by kernel_rfl
def laidL : List (String × DataW Unit) := [("math/bits.deBruijn32tab", Rows.laid_math_bits_deBruijn32tab), ("math/bits.deBruijn64tab", Rows.laid_math_bits_deBruijn64tab), ("internal/strconv.uint64pow10", Rows.laid_internal_strconv_uint64pow10), ("strconv.ErrRange", Rows.laid_strconv_ErrRange), ("strconv.ErrSyntax", Rows.laid_strconv_ErrSyntax)]
theorem iface_of_reads {w : World} {n nm : String} {d : DataW Unit} {g ti : Nat} {ms : Array (String × TypeId)} (h : Lib.VarReads Tryd.prog w n (.iface nm d)) (hg : Tryd.prog.globalNamed n = some g) (ht : (Tryd.prog.globals[g]?).map (·.type) = some ti) (hi : Tryd.prog.underlying ti = some (.interface ms)) : ∃ te pe, w.cell? ⟨g, 0, none⟩ = some (.iface te pe) := by
  obtain ⟨g', t, cs, fuel, p, hg', hty, hvar, hd⟩ := h
  obtain rfl := Option.some.inj (hg.symm.trans hg')
  obtain rfl := Option.some.inj (ht.symm.trans hty)
  cases fuel with
  | zero => simp [DataW.trod] at hd
  | succ fuel =>
    obtain ⟨l⟩ := cs
    rcases l with _ | ⟨c, _ | ⟨c2, l⟩⟩
    · simp [DataW.trod, hi] at hd
    · cases c <;> simp [DataW.trod, hi] at hd
      case iface te pe =>
        have := World.var?_cell hg hvar 0
        exact ⟨te, pe, by simpa using this⟩
    · simp [DataW.trod, hi] at hd
theorem tab_of_reads {w : World} {n : String} {k : IntKind} {zs : List Int} {g t e m : Nat} (h : Lib.VarReads Tryd.prog w n (Lib.tabData k zs)) (hg : Tryd.prog.globalNamed n = some g) (hty : (Tryd.prog.globals[g]?).map (·.type) = some t) (ht : Tryd.prog.underlying t = some (.array m e)) (he : Tryd.prog.underlying e = some (.int k)) (hce : Tryd.prog.cellsOf e = 1) (hct : Tryd.prog.cellsOf t = m) : Lib.TabIs Tryd.prog w n k zs := by
  obtain ⟨g', t', cs, fuel, p, hg', hty', hvar, hd⟩ := h
  obtain rfl := Option.some.inj (hg.symm.trans hg')
  obtain rfl := Option.some.inj (hty.symm.trans hty')
  unfold Lib.TabIs
  rw [hvar, ← Lib.cells_of_tab ht he hce hct hd]
theorem maxlen_of_shape {w : World} (h : w.ShapedOpen Tryd.prog) : ∃ m, w.cell? ⟨0, 0, none⟩ = some (.int .i64 m) :=
  cell_of_shapedOpen_int (zero := #[.int .i64 0]) (t := 3) h (of_decide_eq_true (by kernel_rfl)) (by kernel_rfl) rfl (by kernel_rfl) (by kernel_rfl) Tryd.underlying3
theorem tabs_of {w : World} (hL : laidMetH Tryd.prog laidL w) (hsh : w.ShapedOpen Tryd.prog) : Tabs w := by
  rw [MakeChecks.laidMetH_plain _ _ _ (by kernel_rfl)] at hL
  have R : ∀ n d, (n, d) ∈ laidL → Lib.VarReads Tryd.prog w n d := fun n d hm => Lib.laidMet.reads hL hm
  exact {
    pow10 := tab_of_reads (zs := Lib.pow10Tab) (k := .u64) (t := 94) (e := 52) (m := 20) (by have h := R "internal/strconv.uint64pow10" Rows.laid_internal_strconv_uint64pow10 (by simp [laidL]); rwa [show (Rows.laid_internal_strconv_uint64pow10 : DataW Unit) = Lib.tabData .u64 Lib.pow10Tab by kernel_rfl] at h) gPow10 (by kernel_rfl) Tryd.underlying94 Tryd.underlying52 (by kernel_rfl) (by kernel_rfl),
    errS := iface_of_reads (R "strconv.ErrSyntax" Rows.laid_strconv_ErrSyntax (by simp [laidL])) (by kernel_rfl) (ti := 49) (by kernel_rfl) Tryd.underlying49,
    errR := iface_of_reads (R "strconv.ErrRange" Rows.laid_strconv_ErrRange (by simp [laidL])) (by kernel_rfl) (ti := 49) (by kernel_rfl) Tryd.underlying49,
    maxlen := maxlen_of_shape hsh }
end Go.Proofs.YtnpkjakkjfjikaaDoor.G
