-- Written for this claim by wip/tools/gprint.py out of the translation (it drives the kit's print). Lean checks it.
import Derived.Test.YtenngdkgahngjaaDoorProg
import Derived.Below
import Derived.Deep.Draws
import Derived.Deep.AppendLies
import Derived.Maps.AppendAt
import Derived.OwnWalk
import Derived.Laws.BytesArg
import Derived.Laws.MakeOwn
import Derived.Laws.OwnMore
import Derived.Deep.OwnRows
import Derived.Tactics
import Derived.Lib.ConvBytes
import Derived.Laws.Slices
import Derived.WalkKit
import Derived.KernelRfl
import Derived.RowKit3
import Derived.Deep.LoopGhost
import Derived.Deep.QuietTactic
import Derived.BigQuiet
import Derived.WideLaws
import Derived.Deep.DeepCutAuto
import Derived.Deep.CutBlock
import Derived.Deep.RegionHeld3
import Derived.Laws.Rows
import Derived.Lib.AppendStr
import Derived.ArgAppend
import Derived.Laws.IdiomCopy
import Derived.OrdersHeld
import Derived.Laws.BitsLemmas
import Derived.RowKit
import Derived.Test.YtenngdkgahngjaaDoorWWords
import Derived.Test.YtenngdkgahngjaaDoorWLast
import Derived.Test.YtenngdkgahngjaaDoorWTab
import Derived.Test.YtenngdkgahngjaaDoorWQPut
import Derived.Test.YtenngdkgahngjaaDoorWApart
import Derived.Test.YtenngdkgahngjaaDoorWArr
import Derived.Test.YtenngdkgahngjaaDoorWZeros
import Derived.Test.YtenngdkgahngjaaDoorWFoot
import Derived.Test.YtenngdkgahngjaaDoorWKept
import Derived.Test.YtenngdkgahngjaaDoorWShare
import Derived.Test.YtenngdkgahngjaaDoorWN
import Derived.Test.YtenngdkgahngjaaDoorWEqStruct
import Derived.Test.YtenngdkgahngjaaDoorWRepsOne
import Derived.Test.YtenngdkgahngjaaDoorWGuard
import Derived.Test.YtenngdkgahngjaaDoorWNEv
import Derived.Test.YtenngdkgahngjaaDoorWMore
import Derived.Test.YtenngdkgahngjaaDoorGTabs
import Derived.Test.YtenngdkgahngjaaDoorGShelf
import Derived.Test.YtenngdkgahngjaaDoorSgZ
namespace Go.Proofs.YtenngdkgahngjaaDoor.All
open Go.RowKit Go.Proofs.YtenngdkgahngjaaDoorW.PrintWords Go.Proofs.YtenngdkgahngjaaDoorW.PrintLast Go.Proofs.YtenngdkgahngjaaDoorW.PrintMore Go.Proofs.YtenngdkgahngjaaDoor.G
attribute [local go_sem] max2_int min2_int max_two min_two max_three min_three max_four min_four str_leq str_gtr str_geq   -- for this text's walks alone
set_option linter.unusedVariables false
set_option linter.unusedSimpArgs false



def errW : Option Int → Value
  | none => .nilIface
  | some c => .iface 0 (.int .i64 c)
theorem errW_none : errW none = .nilIface := rfl
theorem errW_some (c : Int) : errW (some c) = .iface 0 (.int .i64 c) := rfl

theorem info3 : (Tryd.prog.info? 3).map (fun i => (i.zero, i.size, i.bytes)) = some (some (.int .i64 0), 1, 8) := by kernel_rfl
theorem info5 : (Tryd.prog.info? 5).map (fun i => (i.zero, i.size, i.bytes)) = some (some (.int .u8 0), 1, 1) := by kernel_rfl
-- the values' own types

/-- A row just laid out of texts, read. -/
theorem C_lits (W : World) (e : TypeId) (inner : Array Value) (xs : List ByteArray) (hi : inner.toList = xs.map Value.string) (hm : xs.length ≤ 9223372036854775807) : Kd.C Kd.string (W.alloc (.cells inner e)) (some ⟨W.heap.size, 0, none⟩) xs.length xs := by
  refine ⟨rfl, hm, fun _ => ⟨_, rfl, fun j y hj => ⟨[.string y], rfl, rfl, fun i v hv => ?_⟩⟩⟩
  cases i with
  | succ i => simp at hv
  | zero =>
    obtain rfl : Value.string y = v := by simpa using hv
    have e1 : j * (Kd.string).sz + 0 = j := by show j * 1 + 0 = j; omega
    rw [e1]
    have e2 : (⟨W.heap.size, 0, none⟩ : Addr).add j = ⟨W.heap.size, j, none⟩ := by unfold Addr.add; split <;> simp
    rw [e2]
    have hx : inner[j]? = some (.string y) := by
      rw [← Array.getElem?_toList, hi, List.getElem?_map, hj]; rfl
    have hh : (W.alloc (.cells inner e)).heap[W.heap.size]? = some (.cells inner e) := by simp [World.alloc, -World.alloc_eq]
    unfold World.cell?
    rw [hh]
    simp [hx]

end Go.Proofs.YtenngdkgahngjaaDoor.All
