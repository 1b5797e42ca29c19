-- Written for this claim by wip/tools/gprint.py out of the translation (it drives the kit's print). Lean checks it.
import Derived.Test.YtbbonbhammfpjaaDoorProg
import Derived.Below
import Derived.Deep.Draws
import Derived.Deep.AppendLies
import Derived.Maps.AppendAt
import Derived.OwnWalk
import Derived.Laws.BytesArg
import Derived.Laws.MakeOwn
import Derived.Laws.OwnMore
import Derived.Deep.OwnRows
import Derived.Tactics
import Derived.Lib.ConvBytes
import Derived.Laws.Slices
import Derived.WalkKit
import Derived.KernelRfl
import Derived.RowKit3
import Derived.Deep.LoopGhost
import Derived.Deep.QuietTactic
import Derived.BigQuiet
import Derived.WideLaws
import Derived.Deep.DeepCutAuto
import Derived.Deep.CutBlock
import Derived.Deep.RegionHeld3
import Derived.Laws.Rows
import Derived.Lib.AppendStr
import Derived.ArgAppend
import Derived.Laws.IdiomCopy
import Derived.OrdersHeld
import Derived.Laws.BitsLemmas
import Derived.RowKit
import Derived.Test.YtbbonbhammfpjaaDoorWWords
import Derived.Test.YtbbonbhammfpjaaDoorWLast
import Derived.Test.YtbbonbhammfpjaaDoorWTab
import Derived.Test.YtbbonbhammfpjaaDoorWQPut
import Derived.Test.YtbbonbhammfpjaaDoorWApart
import Derived.Test.YtbbonbhammfpjaaDoorWArr
import Derived.Test.YtbbonbhammfpjaaDoorWZeros
import Derived.Test.YtbbonbhammfpjaaDoorWFoot
import Derived.Test.YtbbonbhammfpjaaDoorWKept
import Derived.Test.YtbbonbhammfpjaaDoorWShare
import Derived.Test.YtbbonbhammfpjaaDoorWN
import Derived.Test.YtbbonbhammfpjaaDoorWEqStruct
import Derived.Test.YtbbonbhammfpjaaDoorWRepsOne
import Derived.Test.YtbbonbhammfpjaaDoorWGuard
import Derived.Test.YtbbonbhammfpjaaDoorWNEv
import Derived.Test.YtbbonbhammfpjaaDoorWMore
import Derived.Test.YtbbonbhammfpjaaDoorGTabs
import Derived.Test.YtbbonbhammfpjaaDoorGShelf
import Derived.Lib.SplitLaws
namespace Go.Proofs.YtbbonbhammfpjaaDoor.All
open Go.RowKit Go.Proofs.YtbbonbhammfpjaaDoorW.PrintWords Go.Proofs.YtbbonbhammfpjaaDoorW.PrintLast Go.Proofs.YtbbonbhammfpjaaDoorW.PrintMore Go.Proofs.YtbbonbhammfpjaaDoor.G
attribute [local go_sem] max2_int min2_int max_two min_two max_three min_three max_four min_four str_leq str_gtr str_geq   -- for this text's walks alone
set_option linter.unusedVariables false
set_option linter.unusedSimpArgs false



def errW : Option Int → Value
  | none => .nilIface
  | some c => .iface 0 (.int .i64 c)
theorem errW_none : errW none = .nilIface := rfl
theorem errW_some (c : Int) : errW (some c) = .iface 0 (.int .i64 c) := rfl

theorem info3 : (Tryd.prog.info? 3).map (fun i => (i.zero, i.size, i.bytes)) = some (some (.int .i64 0), 1, 8) := by kernel_rfl
theorem info5 : (Tryd.prog.info? 5).map (fun i => (i.zero, i.size, i.bytes)) = some (some (.int .u8 0), 1, 1) := by kernel_rfl
theorem info9 : (Tryd.prog.info? 9).map (fun i => (i.zero, i.size, i.bytes)) = some (some (.string ⟨#[]⟩), 1, 16) := by kernel_rfl
theorem info28 : (Tryd.prog.info? 28).map (fun i => (i.zero, i.size, i.bytes)) = some (some (.agg #[(.int .i64 0), (.int .i64 0)]), 2, 16) := by kernel_rfl
-- the values' own types
/-! #### struct type 28 -/
structure S28 where
  f0 : Int
  f1 : Int
def z28 : S28 := ⟨(0 : Int), (0 : Int)⟩
def k28 : Kd S28 := Kd.iso (Kd.pair (Kd.int .i64) (Kd.int .i64)) (fun x : S28 => (x.f0, x.f1))
theorem k28_open {w : World} {x : S28} {cs : List Value} (h : k28.K w x cs) : cs = [.int .i64 x.f0, .int .i64 x.f1] := by
  obtain ⟨_, _, rfl, rfl, rfl⟩ := h
  exact rfl
theorem k28_openM {w : World} {base : Nat} {ok : Nat → Prop} {x : S28} {cs : List Value} (h : k28.M w base ok x cs) : cs = [.int .i64 x.f0, .int .i64 x.f1] := by
  obtain ⟨_, _, rfl, rfl, rfl⟩ := h
  exact rfl
theorem k28_mk (w : World) (x : S28)  : k28.K w x [.int .i64 x.f0, .int .i64 x.f1] := ⟨[.int .i64 x.f0], [.int .i64 x.f1], rfl, rfl, rfl⟩
theorem k28_mkM (w : World) (base : Nat) (ok : Nat → Prop) (x : S28)  : k28.M w base ok x [.int .i64 x.f0, .int .i64 x.f1] := ⟨[.int .i64 x.f0], [.int .i64 x.f1], rfl, rfl, rfl⟩
def rd_T28 (xs : List S28) (i : Int) : S28 := xs.getD i.toNat z28
theorem at_T28 {w : World} {A : Option Addr} {n : Nat} {xs : List S28} (h : Kd.C k28 w A n xs) (i : Int) (h0 : 0 ≤ i) (h1 : i < n) : ∃ ad , A = some ad ∧ w.cell? (ad.add (i.toNat * 2)) = some (.int .i64 (rd_T28 xs i).f0) ∧ w.cell? ⟨(ad.add (i.toNat * 2)).block, (ad.add (i.toNat * 2)).off + 1, none⟩ = some (.int .i64 (rd_T28 xs i).f1) := by
  obtain ⟨ad, c, e, _, hK, hc0⟩ := Kd.C_get h z28 i h0 h1
  have hc : ∀ j u, c[j]? = some u → w.cell? (ad.add (i.toNat * 2 + j)) = some u := hc0
  obtain rfl := k28_open hK
  exact ⟨ad, e, hc 0 _ rfl, by rw [← add_field _ _ 1 (by omega)]; exact hc 1 _ rfl⟩

def rd_L5 (xs : List (List ByteArray)) (i : Int) : (List ByteArray) := xs.getD i.toNat ([] : List ByteArray)
theorem at_L5 {w : World} {A : Option Addr} {n : Nat} {xs : List (List ByteArray)} (h : Kd.C (Kd.slice 9 Kd.string) w A n xs) (i : Int) (h0 : 0 ≤ i) (h1 : i < n) : ∃ ad A0 c0, A = some ad ∧ w.cell? (ad.add i.toNat) = some (.slice A0 (rd_L5 xs i).length c0) ∧ (rd_L5 xs i).length ≤ c0 ∧ Kd.string.C w A0 (rd_L5 xs i).length (rd_L5 xs i) := by
  obtain ⟨ad, c, e, _, hK, hc0⟩ := Kd.C_get h ([] : List ByteArray) i h0 h1
  have hc : ∀ j u, c[j]? = some u → w.cell? (ad.add (i.toNat * 1 + j)) = some u := hc0
  obtain ⟨A0, c0, rfl, l0, g0⟩ := hK
  exact ⟨ad, A0, c0, e, by have hq := hc 0 _ rfl; rwa [Nat.mul_one, Nat.add_zero] at hq, l0, g0⟩

/-- A row just laid out of texts, read. -/
theorem C_lits (W : World) (e : TypeId) (inner : Array Value) (xs : List ByteArray) (hi : inner.toList = xs.map Value.string) (hm : xs.length ≤ 9223372036854775807) : Kd.C Kd.string (W.alloc (.cells inner e)) (some ⟨W.heap.size, 0, none⟩) xs.length xs := by
  refine ⟨rfl, hm, fun _ => ⟨_, rfl, fun j y hj => ⟨[.string y], rfl, rfl, fun i v hv => ?_⟩⟩⟩
  cases i with
  | succ i => simp at hv
  | zero =>
    obtain rfl : Value.string y = v := by simpa using hv
    have e1 : j * (Kd.string).sz + 0 = j := by show j * 1 + 0 = j; omega
    rw [e1]
    have e2 : (⟨W.heap.size, 0, none⟩ : Addr).add j = ⟨W.heap.size, j, none⟩ := by unfold Addr.add; split <;> simp
    rw [e2]
    have hx : inner[j]? = some (.string y) := by
      rw [← Array.getElem?_toList, hi, List.getElem?_map, hj]; rfl
    have hh : (W.alloc (.cells inner e)).heap[W.heap.size]? = some (.cells inner e) := by simp [World.alloc, -World.alloc_eq]
    unfold World.cell?
    rw [hh]
    simp [hx]

end Go.Proofs.YtbbonbhammfpjaaDoor.All
