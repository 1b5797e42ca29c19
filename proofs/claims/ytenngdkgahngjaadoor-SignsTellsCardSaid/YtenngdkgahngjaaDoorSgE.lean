/- Walks through the code of signs, by hand. -/
import Derived.Test.YtenngdkgahngjaaDoorGTabs
import Derived.Test.YtenngdkgahngjaaDoorWMore
import Derived.Lib.OthersKept
import Derived.WalkKit
import Derived.BigCall
import Derived.KernelRfl
import Derived.Below
import Derived.Test.YtenngdkgahngjaaDoorGShelf
import Derived.Lib.TrimU
import Derived.Laws.Slices
import Derived.Laws.Cover4
import Derived.Laws.BitsAllLaws
import Derived.Laws.BytesArg
import Derived.Lib.LazyBuf
import Derived.Lib.IfaceEq
import Derived.Test.YtenngdkgahngjaaDoorSgF
import Derived.Test.YtenngdkgahngjaaDoorSgA
namespace Go.Proofs.YtenngdkgahngjaaDoor.All
open Go.RowKit Go.Proofs.YtenngdkgahngjaaDoorW.PrintWords Go.Proofs.YtenngdkgahngjaaDoorW.PrintLast Go.Proofs.YtenngdkgahngjaaDoorW.PrintMore Go.Proofs.YtenngdkgahngjaaDoor.G
set_option linter.unusedVariables false
set_option linter.unusedSimpArgs false
set_option maxHeartbeats 4000000
set_option maxRecDepth 1000000
theorem encode_ascii (c : Nat) (h : c < 128) : Utf8.encode (c : Int) = ⟨#[UInt8.ofNat c]⟩ := by
  have hv : Utf8.valid (c : Int) = true := by
    unfold Utf8.valid
    simp
    omega
  unfold Utf8.encode
  simp only [hv, if_true, Int.toNat_natCast]
  rw [if_pos h]
theorem cells_two (W : World) (v0 v1 : Value) (T : TypeId) : (W.alloc (.cells #[v0, v1] T)).cell? ⟨W.heap.size, 0, none⟩ = some v0 ∧ (W.alloc (.cells #[v0, v1] T)).cell? ⟨W.heap.size, 1, none⟩ = some v1 := by
  have hh : (W.alloc (.cells #[v0, v1] T)).heap[W.heap.size]? = some (.cells #[v0, v1] T) := by simp [World.alloc, -World.alloc_eq]
  unfold World.cell?
  rw [hh]
  exact ⟨rfl, rfl⟩
theorem conv_two (W : World) (x y : UInt8) : (convert 27 9 (.slice (some ⟨W.heap.size, 0, none⟩) 2 2)).run Tryd.prog (W.alloc (.cells #[.int .u8 (x.toNat : Int), .int .u8 (y.toNat : Int)] 5)) = .ok (.string ⟨#[x, y]⟩) (W.alloc (.cells #[.int .u8 (x.toNat : Int), .int .u8 (y.toNat : Int)] 5)) := by
  have hc := cells_two W (.int .u8 (x.toNat : Int)) (.int .u8 (y.toNat : Int)) 5
  have := run_convert_bytes_arg (P := Tryd.prog) (W.alloc (.cells #[.int .u8 (x.toNat : Int), .int .u8 (y.toNat : Int)] 5)) 27 5 Tryd.underlying27 Tryd.underlying5 W.heap.size 0 2 2 ([x, y].map fun z => (z.toNat : Int)) rfl (fun i hi => by
    match i, hi with
    | 0, _ => exact hc.1
    | 1, _ => exact hc.2) 9 Tryd.underlying9
  rw [this, Lib.Lz.strOfNums_map]
theorem conv_runes (W : World) : (convert 50 9 (.slice (some ⟨W.heap.size, 0, none⟩) 2 2)).run Tryd.prog (W.alloc (.cells #[.int .i32 64, .int .i32 64] 21)) = .ok (.string ⟨#[64, 64]⟩) (W.alloc (.cells #[.int .i32 64, .int .i32 64] 21)) := by
  have hc := cells_two W (.int .i32 64) (.int .i32 64) 21
  have := run_convert_runes (P := Tryd.prog) (W.alloc (.cells #[.int .i32 64, .int .i32 64] 21)) 50 9 21 ⟨W.heap.size, 0, none⟩ 2 2 [64, 64] (by decide) Tryd.underlying50 Tryd.underlying21 Tryd.underlying9 (fun j hj => by
    match j, hj with
    | 0, _ => exact hc.1
    | 1, _ => exact hc.2)
  have e : runesBytes (List.take 2 [64, 64]) = ⟨#[64, 64]⟩ := by decide +kernel
  rw [this, e]
set_option maxHeartbeats 4000000 in
set_option maxRecDepth 1000000 in
theorem escape_plain (c : Nat) (h1 : c < 128) (w : World)
    (C1 : ∀ W, Calls Tryd.prog 27 #[.int .i32 (c : Int)] W fun e w' => e = .returned (.bool true) ∧ Drawn0 W w') :
    Calls Tryd.prog 16 #[.int .i32 (c : Int)] w fun e w' => e = .returned (.string ⟨#[UInt8.ofNat c]⟩) ∧ Below w.heap.size w w' := by
  rw [← encode_ascii c h1]
  go_enter Tryd.func16, Tryd.ntmps16
  go_wp2_with (first | (go_at_call 27; (with_reducible refine (C1 _).mono ?_); rintro e w1 ⟨rfl, hb1⟩))
  go_ret
  exact ⟨rfl, hb1.below⟩
set_option maxHeartbeats 4000000 in
set_option maxRecDepth 1000000 in
theorem escape_mark (w : World)
    (C1 : ∀ W, Calls Tryd.prog 27 #[.int .i32 64] W fun e w' => e = .returned (.bool false) ∧ Drawn0 W w') :
    Calls Tryd.prog 16 #[.int .i32 64] w fun e w' => e = .returned (.string ⟨#[64, 64]⟩) ∧ Below w.heap.size w w' := by
  go_enter Tryd.func16, Tryd.ntmps16
  go_wp2_with (first | (go_at_call 27; (with_reducible refine (C1 _).mono ?_); rintro e w1 ⟨rfl, hb1⟩; have hcv := conv_runes w1))
  go_ret
  exact ⟨rfl, hb1.below.alloc hb1.below.size _⟩
set_option maxHeartbeats 4000000 in
set_option maxRecDepth 1000000 in
theorem escape_short (c : Nat) (b : UInt8) (hb : 0 < b.toNat) (h64 : (c : Int) ≠ 64) (w : World)
    (C1 : ∀ W, Calls Tryd.prog 27 #[.int .i32 (c : Int)] W fun e w' => e = .returned (.bool false) ∧ Drawn0 W w')
    (C2 : ∀ W, Calls Tryd.prog 28 #[.int .i32 (c : Int)] W fun e w' => e = .returned (.int .u8 (b.toNat : Int)) ∧ Below W.heap.size W w') :
    Calls Tryd.prog 16 #[.int .i32 (c : Int)] w fun e w' => e = .returned (.string ⟨#[64, b]⟩) ∧ Below w.heap.size w w' := by
  have h1 : ((c : Int) == 64) = false := beq_eq_false_iff_ne.2 h64
  have h2 : decide ((b.toNat : Int) > 0) = true := decide_eq_true (by omega)
  have h3 : decide (0 < (b.toNat : Int)) = true := decide_eq_true (by omega)
  go_enter Tryd.func16, Tryd.ntmps16
  go_wp2_with (first | (go_at_call 27; (with_reducible refine (C1 _).mono ?_); rintro e w1 ⟨rfl, hb1⟩) | (go_at_call 28; (with_reducible refine (C2 _).mono ?_); rintro e w2 ⟨rfl, hb2⟩; have hcv := (show (convert 27 9 (.slice (some ⟨w2.heap.size, 0, none⟩) 2 2)).run Tryd.prog (w2.alloc (.cells #[.int .u8 64, .int .u8 (b.toNat : Int)] 5)) = .ok (.string ⟨#[64, b]⟩) (w2.alloc (.cells #[.int .u8 64, .int .u8 (b.toNat : Int)] 5)) from conv_two w2 64 b)))
  go_ret
  have hb := hb1.below.trans (hb2.mono hb1.below.size)
  exact ⟨rfl, hb.alloc hb.size _⟩
set_option maxHeartbeats 4000000 in
set_option maxRecDepth 1000000 in
theorem escape_hex (c : Nat) (t u : ByteArray) (h64 : (c : Int) ≠ 64) (hc : c ≤ 1114111) (hu : u.size ≤ 1000) (w : World)
    (C1 : ∀ W, Calls Tryd.prog 27 #[.int .i32 (c : Int)] W fun e w' => e = .returned (.bool false) ∧ Drawn0 W w')
    (C2 : ∀ W, Calls Tryd.prog 28 #[.int .i32 (c : Int)] W fun e w' => e = .returned (.int .u8 0) ∧ Below W.heap.size W w')
    (C3 : ∀ W, Below w.heap.size w W → Calls Tryd.prog 30 #[.int .i64 (c : Int), .int .i64 16] W fun e w' => e = .returned (.string t) ∧ Below W.heap.size W w')
    (C4 : ∀ W, Calls Tryd.prog 29 #[.string t] W fun e w' => e = .returned (.string u) ∧ Below W.heap.size W w') :
    Calls Tryd.prog 16 #[.int .i32 (c : Int)] w fun e w' => e = .returned (.string (⟨#[64, 123]⟩ ++ u ++ ⟨#[125]⟩)) ∧ Below w.heap.size w w' := by
  have h1 : ((c : Int) == 64) = false := beq_eq_false_iff_ne.2 h64
  have hw : IntKind.i64.wrap (c : Int) = (c : Int) := by
    simp only [IntKind.wrap, IntKind.signed, IntKind.bits]
    simp
    omega
  have b1 : (9223372036854775807 < 2 + u.size) = False := eq_false (by omega)
  have b2 : (9223372036854775807 < 2 + u.size + 1) = False := eq_false (by omega)
  go_enter Tryd.func16, Tryd.ntmps16
  go_wp2_with (first | (go_at_call 27; (with_reducible refine (C1 _).mono ?_); rintro e w1 ⟨rfl, hb1⟩) | (go_at_call 28; (with_reducible refine (C2 _).mono ?_); rintro e w2 ⟨rfl, hb2⟩; have hb := hb1.below.trans (hb2.mono hb1.below.size)) | (go_at_call 30; (with_reducible refine (C3 _ hb).mono ?_); rintro e w3 ⟨rfl, hb3⟩) | (go_at_call 29; (with_reducible refine (C4 _).mono ?_); rintro e w4 ⟨rfl, hb4⟩))
  go_ret
  have hb' := hb.trans (hb3.mono hb.size)
  exact ⟨rfl, hb'.trans (hb4.mono hb'.size)⟩
/-- A sign's escape. -/
def upHex (c : Nat) : List UInt8 := Lib.toUpperA (hexD c)
def escL (c : Nat) : List UInt8 :=
  if 32 ≤ c ∧ c ≤ 126 ∧ c ≠ 64 then [UInt8.ofNat c] else if c = 64 then [64, 64] else if 0 < lookup (c : Int) farR nearL then [64, UInt8.ofNat (lookup (c : Int) farR nearL).toNat] else 64 :: 123 :: (upHex c ++ [125])
theorem upHex_len (c : Nat) (h : c ≤ 1114111) : (upHex c).length ≤ 6 := by
  have h1 := hexD_len 6 c (by decide) (by have : (16 : Nat) ^ 6 = 16777216 := by decide
                                          omega)
  unfold upHex
  rw [Lib.toUpperA, List.length_map]
  omega
theorem escL_len (c : Nat) (h : c ≤ 1114111) : (escL c).length ≤ 9 := by
  have := upHex_len c h
  unfold escL
  repeat' split
  all_goals simp
  omega
def escFrom (s : ByteArray) : Nat → Nat → List UInt8
  | 0, _ => []
  | fuel + 1, pos => if pos < s.size then escL (Utf8.decode s pos).1 ++ escFrom s fuel (pos + (Utf8.decode s pos).2) else []
def escS (s : ByteArray) : List UInt8 := escFrom s s.size 0
theorem escFrom_end (s : ByteArray) (fuel pos : Nat) (h : ¬ pos < s.size) : escFrom s fuel pos = [] := by
  cases fuel with
  | zero => rfl
  | succ f => simp [escFrom, h]
theorem rune_width (s : ByteArray) (pos : Nat) (h : pos < s.size) : 1 ≤ (Utf8.decode s pos).2 := by
  by_cases ha : (s[pos]'h).toNat < 128
  · rw [decode_ascii s pos h ha]
    exact Nat.le_refl _
  · exact (decode_high s pos h (by omega)).2
theorem builderAt_below {T e : TypeId} {B b : Nat} {p : Value} {bs : List Value} {w w1 : World} (h : Lib.BuilderAtF T e B b p bs w) (hb : Below w.heap.size w w1) : Lib.BuilderAtF T e B b p bs w1 := by
  have hlt := h.lt
  obtain ⟨hB, v, hbk, hown, hne⟩ := h
  exact ⟨hB, v, (hb.block b hlt).trans hbk, hown.kept (row := none) (grown_of_below hb none) (by cases hv : v.ownBlock <;> simp), hne⟩
theorem builder_below {T e : TypeId} {B b : Nat} {bs : List Value} {w w1 : World} (h : Lib.IsBuilderF T e B b bs w) (hb : Below w.heap.size w w1) : Lib.IsBuilderF T e B b bs w1 := h.elim (fun x => .inl (builderAt_below x hb)) (fun x => .inr (builderAt_below x hb))
set_option maxHeartbeats 4000000 in
set_option maxRecDepth 1000000 in
theorem Escape_walk (s : ByteArray) (w : World) (hT : Tabs w) (hs : s.size ≤ 1000000000)
    (C1 : ∀ W, Tabs W → Calls Tryd.prog 13 #[.string s] W fun e w' => e = .returned (.bool true) ∧ Below W.heap.size W w')
    (C2 : ∀ W, Tabs W → ∀ c : Nat, c ≤ 1114111 → Calls Tryd.prog 16 #[.int .i32 (c : Int)] W fun e w' => e = .returned (.string ⟨(escL c).toArray⟩) ∧ Below W.heap.size W w') :
    Calls Tryd.prog 9 #[.string s] w fun e w' => e = .returned (.tuple #[.string ⟨(escS s).toArray⟩, .bool true]) ∧ Below w.heap.size w w' := by
  go_enter Tryd.func9, Tryd.ntmps9
  go_wp2_with (go_at_call 13; (with_reducible refine (C1 _ hT).mono ?_); rintro e w0 ⟨rfl, hb0⟩)
  have hT0 := hT.below hb0
  go_loopw [] (fun wr => ∃ (pos fuel : Nat) (acc : List UInt8), Lib.IsBuilderF 31 5 w0.heap.size w0.heap.size (Lib.byteCells acc) wr ∧ wr.heap[w0.heap.size + 1]? = some (.stringIter s pos) ∧ Below w0.heap.size w0 wr ∧ acc ++ escFrom s fuel pos = escS s ∧ s.size ≤ pos + fuel ∧ acc.length ≤ 9 * pos) (fun wr => s.size - wr.iterPos (w0.heap.size + 1))
  case atStart =>
    refine ⟨0, s.size, [], (Lib.IsBuilderF.of (Lib.fresh_isBuilder 31 5 w0)).alloc _, ?_, ((Below.refl _ w0).alloc (Nat.le_refl _) _).alloc (by simp) _, rfl, by omega, by simp⟩
    have := World.iter_heap (w0.alloc (.cells #[.pointer none, .slice none 0 0] 31)) s 0
    simpa using this
  case round =>
    obtain ⟨pos, fuel, acc, hI, hit, hbw, hacc, hfu, hal⟩ := hrel
    have hsz : w0.heap.size + 1 < wr.heap.size := (Array.getElem?_eq_some_iff.1 hit).1
    by_cases hp : pos < s.size
    · have hnx : ∀ ty, (Instr.next (.pointer (some ⟨w0.heap.size + 1, 0, none⟩)) true ty).run Tryd.prog wr = _ := fun ty => Lib.run_next_any_at wr (w0.heap.size + 1) s pos ty hit hp
      have hwd := rune_width s pos hp
      have hd1 := Lib.rune_le s pos
      have hI2 := hI.iterAt hit (pos + (Utf8.decode s pos).2)
      have hit2 := Lib.iterAt_heap wr (w0.heap.size + 1) s pos (pos + (Utf8.decode s pos).2) hit
      have hbw2 := Lib.below_iterAt hbw (k := w0.heap.size + 1) (by omega) s (pos + (Utf8.decode s pos).2)
      obtain ⟨f, rfl⟩ : ∃ f, fuel = f + 1 := ⟨fuel - 1, by omega⟩
      have hstep : escFrom s (f + 1) pos = escL (Utf8.decode s pos).1 ++ escFrom s f (pos + (Utf8.decode s pos).2) := by rw [escFrom, if_pos hp]
      have hle := escL_len (Utf8.decode s pos).1 hd1
      have hsz2 : (wr.iterAt (w0.heap.size + 1) s (pos + (Utf8.decode s pos).2)).heap.size = wr.heap.size := Lib.iterAt_size _ _ _ _
      have C := C2 _ (hT0.below hbw2) _ hd1
      generalize escL (Utf8.decode s pos).1 = L at hstep hle C
      have hLs : (⟨L.toArray⟩ : ByteArray).size = L.length := by rw [Lib.size_eq]
      generalize wr.iterAt (w0.heap.size + 1) s (pos + (Utf8.decode s pos).2) = wi at hnx hI2 hit2 hbw2 hsz2 C
      generalize Utf8.decode s pos = cd at hnx hwd hstep hit2 C
      go_wp2_with (first | (go_at_call 16; (with_reducible refine C.mono ?_); rintro e w1 ⟨rfl, hb1⟩
                            have hI3 := builder_below hI2 hb1
                            have hit3 : w1.heap[w0.heap.size + 1]? = some (.stringIter s (pos + cd.2)) := (hb1.block _ (by omega)).trans hit2
                            have hbw3 := hbw2.trans (hb1.mono hbw2.size)
                            have hsz3 := hb1.size)
                         | (go_at_call 15; (with_reducible refine (Tryd.Builder_WriteString_k w0.heap.size w0.heap.size _ _ _ hI3 (by rw [Lib.byteCells_length, hLs]; omega) (by omega)).mono ?_); rintro e w2 ⟨rfl, h1, b1, k1⟩))
      go_roundw
      case rel =>
        refine ⟨pos + cd.2, f, acc ++ L, ?_, k1 _ _ hit3 (by simp) (by simp), hbw3.trans b1, by rw [← hacc, hstep, List.append_assoc], by omega, by simp; omega⟩
        rw [Lib.byteCells_append]
        exact Or.inr h1
      case measure =>
        have h3 := k1 _ _ hit3 (by simp) (by simp)
        simp only [World.iterPos, h3, hit]
        omega
    · have hnx : ∀ ty, (Instr.next (.pointer (some ⟨w0.heap.size + 1, 0, none⟩)) true ty).run Tryd.prog wr = _ := fun ty => Lib.run_next_end_at wr (w0.heap.size + 1) s pos ty hit hp
      rw [escFrom_end s fuel pos hp, List.append_nil] at hacc
      go_wp2_with (go_at_call 17; (with_reducible refine (Tryd.Builder_String_any_k w0.heap.size w0.heap.size acc _ hI (by omega)).mono ?_); rintro e W1 ⟨rfl, _, b1, _⟩)
      go_ret2
      subst hacc
      have := hbw.trans b1
      exact ⟨rfl, hb0.trans (this.mono hb0.size)⟩
end Go.Proofs.YtenngdkgahngjaaDoor.All
