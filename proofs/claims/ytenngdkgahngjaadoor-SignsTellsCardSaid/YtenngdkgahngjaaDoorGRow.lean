/- The tables and variables of Go's library, out of the row's own condition. Written by wip/tools/grow.py. -/
import Derived.Test.YtenngdkgahngjaaDoorRows
import Derived.Test.YtenngdkgahngjaaDoorGTabs
import Derived.Lib.LaidU8
import Derived.Lib.LaidTab
import Derived.MakeChecks
import Derived.Lay
import Derived.Stop.LaidErr
import Derived.Deep.DeepHandedRow
import Derived.ProofKit
import Derived.WalkKit
import Derived.SliceStrings
import Derived.Test.YtenngdkgahngjaaDoorWWords
import Derived.PinnedBridge
import Derived.Lib.LaidU8T
import Derived.Lib.TrailingZeros
import Derived.Shelf.Vars
namespace Go.Proofs.YtenngdkgahngjaaDoor.G
open Go.ChangeShapes Go.WideShapes Go.ChangeAt Go.RowKit Go.Proofs.YtenngdkgahngjaaDoorW.PrintWords
theorem own : ownKnob Tryd.prog.godebug = none := by kernel_rfl
theorem laidOut : laidOutB Tryd.prog = true := by kernel_rfl
def laidL : List (String × DataW Unit) := [("math/bits.deBruijn32tab", Rows.laid_math_bits_deBruijn32tab), ("math/bits.deBruijn64tab", Rows.laid_math_bits_deBruijn64tab), ("internal/strconv.uint64pow10", Rows.laid_internal_strconv_uint64pow10), ("unicode/utf8.acceptRanges", Rows.laid_unicode_utf8_acceptRanges), ("strconv.ErrRange", Rows.laid_strconv_ErrRange), ("strconv.ErrSyntax", Rows.laid_strconv_ErrSyntax), ("unicode.CaseRanges", Rows.laid_unicode_CaseRanges), ("unicode/utf8.first", Rows.laid_unicode_utf8_first)]
theorem iface_of_reads {w : World} {n nm : String} {d : DataW Unit} {g ti : Nat} {ms : Array (String × TypeId)} (h : Lib.VarReads Tryd.prog w n (.iface nm d)) (hg : Tryd.prog.globalNamed n = some g) (ht : (Tryd.prog.globals[g]?).map (·.type) = some ti) (hi : Tryd.prog.underlying ti = some (.interface ms)) : ∃ te pe, w.cell? ⟨g, 0, none⟩ = some (.iface te pe) := by
  obtain ⟨g', t, cs, fuel, p, hg', hty, hvar, hd⟩ := h
  obtain rfl := Option.some.inj (hg.symm.trans hg')
  obtain rfl := Option.some.inj (ht.symm.trans hty)
  cases fuel with
  | zero => simp [DataW.trod] at hd
  | succ fuel =>
    obtain ⟨l⟩ := cs
    rcases l with _ | ⟨c, _ | ⟨c2, l⟩⟩
    · simp [DataW.trod, hi] at hd
    · cases c <;> simp [DataW.trod, hi] at hd
      case iface te pe =>
        have := World.var?_cell hg hvar 0
        exact ⟨te, pe, by simpa using this⟩
    · simp [DataW.trod, hi] at hd
theorem tab_of_reads {w : World} {n : String} {k : IntKind} {zs : List Int} {g t e m : Nat} (h : Lib.VarReads Tryd.prog w n (Lib.tabData k zs)) (hg : Tryd.prog.globalNamed n = some g) (hty : (Tryd.prog.globals[g]?).map (·.type) = some t) (ht : Tryd.prog.underlying t = some (.array m e)) (he : Tryd.prog.underlying e = some (.int k)) (hce : Tryd.prog.cellsOf e = 1) (hct : Tryd.prog.cellsOf t = m) : Lib.TabIs Tryd.prog w n k zs := by
  obtain ⟨g', t', cs, fuel, p, hg', hty', hvar, hd⟩ := h
  obtain rfl := Option.some.inj (hg.symm.trans hg')
  obtain rfl := Option.some.inj (hty.symm.trans hty')
  unfold Lib.TabIs
  rw [hvar, ← Lib.cells_of_tab ht he hce hct hd]
theorem cell_of_tab {w : World} {n : String} {k : IntKind} {zs : List Int} {g : Nat} (ht : Lib.TabIs Tryd.prog w n k zs) (hg : Tryd.prog.globalNamed n = some g) (i : Nat) (z : Int) (hz : zs[i]? = some z) : w.cell? ⟨g, i, none⟩ = some (.int k z) := by
  rw [World.var?_cell hg ht i]
  simp [hz]
def u8ren : Go.Shelf.Ren := { f := fun x => x, t := fun k => if k = 5 then 5 else if k = 119 then 63 else if k = 138 then 65 else if k = 139 then 66 else 0, g := fun k => if k = 3 then 0 else if k = 4 then 1 else 0 }
theorem utf8_of_reads {w : World} (h3 : Lib.VarReads Tryd.prog w "unicode/utf8.first" Rows.laid_unicode_utf8_first) (h4 : Lib.VarReads Tryd.prog w "unicode/utf8.acceptRanges" Rows.laid_unicode_utf8_acceptRanges) : Lib.Utf8Tabs 0 1 w := by
  rw [show Rows.laid_unicode_utf8_first = Lib.firstData from Pinned.utf8First_eq] at h3
  rw [show (Rows.laid_unicode_utf8_acceptRanges : DataW Unit) = Lib.acceptData by kernel_rfl] at h4
  exact utf8Tabs_of_readsT (P := Tryd.prog) (ρ := u8ren) ⟨by kernel_rfl, by kernel_rfl, by kernel_rfl, by kernel_rfl⟩ ⟨by kernel_rfl, by kernel_rfl, by kernel_rfl, by kernel_rfl, by kernel_rfl, by kernel_rfl, by kernel_rfl⟩ h3 h4
theorem maxlen_of_shape {w : World} (h : w.ShapedOpen Tryd.prog) : ∃ m, w.cell? ⟨2, 0, none⟩ = some (.int .i64 m) :=
  cell_of_shapedOpen_int (zero := #[.int .i64 0]) (t := 3) h (of_decide_eq_true (by kernel_rfl)) (by kernel_rfl) rfl (by kernel_rfl) (by kernel_rfl) Tryd.underlying3
/-- A slice of texts that came in: what it reads. -/
theorem open_texts {H : Type} {enc : TypeId × Value → H} {P : Program} {w : World} {base : Nat} {spare : Nat → Bool} {held : Bool} {r : Reach} {b0 : Nat} {t e : TypeId} {v : Value} {d : DataW H} {p : List MemPlace}
    (ht : P.underlying t = some (.slice e)) (he : P.underlying e = some .string) (hc : P.cellsOf e = 1) (hval : Value.okWide P w r b0 t v) (hd : DataW.Trod enc P w base spare held t v d p) :
    ∃ (A : Option Addr) (c : Nat) (l : List ByteArray), v = .slice A l.length c ∧ Kd.C Kd.string w A l.length l ∧ l.length ≤ c ∧ (l = [] ∨ ∃ sp, d = .slice (strs l) sp) := by
  obtain ⟨a, n, c, rfl⟩ := okWide_slice ht hval
  obtain ⟨fuel, hf⟩ := hd
  have hcs : (Value.slice a n c).cells.toList = [.slice a n c] := by simp [Value.cells]
  rw [hcs] at hf
  rcases open_strings ht he hc hf with ⟨hn, _⟩ | ⟨ad, len, cap, ss, hv, _, hl, hm, hlen, hx, hcell, _⟩
  · simp at hn
    obtain ⟨rfl, rfl, rfl⟩ := hn
    exact ⟨none, 0, [], rfl, Kd.C_nil _ _, Nat.le_refl _, .inl rfl⟩
  · simp at hv
    obtain ⟨rfl, rfl, rfl⟩ := hv
    have hss : n ≤ ss.length := by rw [hlen]; split <;> omega
    have htl : (ss.take n).length = n := by rw [List.length_take]; omega
    simp only [Prod.mk.injEq] at hx
    refine ⟨some ad, c, ss.take n, by rw [htl], ?_, by omega, .inr ⟨_, hx.1⟩⟩
    rw [htl]
    refine ⟨htl, by have h2 : maxLen = 9223372036854775807 := rfl; omega, fun _ => ⟨ad, rfl, fun j x hj => ⟨[.string x], rfl, rfl, fun i u hi => ?_⟩⟩⟩
    cases i with
    | succ i => simp at hi
    | zero =>
      obtain rfl : Value.string x = u := by simpa using hi
      have e1 : j * (Kd.string).sz + 0 = j := by show j * 1 + 0 = j; omega
      rw [e1]
      have hj' : j < n := by have := (List.getElem?_eq_some_iff.1 hj).1; omega
      have hx2 : ss[j]? = some x := by rw [List.getElem?_take, if_pos hj'] at hj; exact hj
      rw [hcell j (by omega), List.getD_eq_getElem?_getD, hx2]
      rfl
theorem tabs_of {w : World} (hL : laidMetH Tryd.prog laidL w) (hsh : w.ShapedOpen Tryd.prog) : Tabs w := by
  rw [MakeChecks.laidMetH_plain _ _ _ (by kernel_rfl)] at hL
  have R : ∀ n d, (n, d) ∈ laidL → Lib.VarReads Tryd.prog w n d := fun n d hm => Lib.laidMet.reads hL hm
  exact {
    pow10 := tab_of_reads (zs := Lib.pow10Tab) (k := .u64) (t := 101) (e := 77) (m := 20) (by have h := R "internal/strconv.uint64pow10" Rows.laid_internal_strconv_uint64pow10 (by simp [laidL]); rwa [show (Rows.laid_internal_strconv_uint64pow10 : DataW Unit) = Lib.tabData .u64 Lib.pow10Tab by kernel_rfl] at h) gPow10 (by kernel_rfl) Tryd.underlying101 Tryd.underlying77 (by kernel_rfl) (by kernel_rfl),
    tz := cell_of_tab (zs := Lib.deBruijn64tab.map Int.ofNat) (k := .u8) (by exact tab_of_reads (zs := Lib.deBruijn64tab.map Int.ofNat) (k := .u8) (t := 123) (e := 5) (m := 64) (by have h := R "math/bits.deBruijn64tab" Rows.laid_math_bits_deBruijn64tab (by simp [laidL]); rwa [show (Rows.laid_math_bits_deBruijn64tab : DataW Unit) = Lib.tabData .u8 (Lib.deBruijn64tab.map Int.ofNat) by kernel_rfl] at h) (by kernel_rfl : Tryd.prog.globalNamed "math/bits.deBruijn64tab" = some 8) (by kernel_rfl) Tryd.underlying123 Tryd.underlying5 (by kernel_rfl) (by kernel_rfl)) (by kernel_rfl) 15 4 rfl,
    errS := iface_of_reads (R "strconv.ErrSyntax" Rows.laid_strconv_ErrSyntax (by simp [laidL])) (by kernel_rfl) (ti := 33) (by kernel_rfl) Tryd.underlying33,
    errR := iface_of_reads (R "strconv.ErrRange" Rows.laid_strconv_ErrRange (by simp [laidL])) (by kernel_rfl) (ti := 33) (by kernel_rfl) Tryd.underlying33,
    utf8 := utf8_of_reads (R "unicode/utf8.first" Rows.laid_unicode_utf8_first (by simp [laidL])) (R "unicode/utf8.acceptRanges" Rows.laid_unicode_utf8_acceptRanges (by simp [laidL])),
    maxlen := maxlen_of_shape hsh }
end Go.Proofs.YtenngdkgahngjaaDoor.G
