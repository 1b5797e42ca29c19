-- Written for this claim by wip/tools/gprint.py out of the translation (it drives the kit's print). Lean checks it.
import Derived.Test.YtnpkjakkjfjikaaDoorProg
import Derived.Below
import Derived.Deep.Draws
import Derived.Deep.AppendLies
import Derived.Maps.AppendAt
import Derived.OwnWalk
import Derived.Laws.BytesArg
import Derived.Laws.MakeOwn
import Derived.Laws.OwnMore
import Derived.Deep.OwnRows
import Derived.Tactics
import Derived.Lib.ConvBytes
import Derived.Laws.Slices
import Derived.WalkKit
import Derived.KernelRfl
import Derived.RowKit3
import Derived.Deep.LoopGhost
import Derived.Deep.QuietTactic
import Derived.BigQuiet
import Derived.WideLaws
import Derived.Deep.DeepCutAuto
import Derived.Deep.CutBlock
import Derived.Deep.RegionHeld3
import Derived.Laws.Rows
import Derived.Lib.AppendStr
import Derived.ArgAppend
import Derived.Laws.IdiomCopy
import Derived.OrdersHeld
import Derived.Laws.BitsLemmas
import Derived.RowKit
import Derived.Test.YtnpkjakkjfjikaaDoorWWords
import Derived.Test.YtnpkjakkjfjikaaDoorWLast
import Derived.Test.YtnpkjakkjfjikaaDoorWTab
import Derived.Test.YtnpkjakkjfjikaaDoorWQPut
import Derived.Test.YtnpkjakkjfjikaaDoorWApart
import Derived.Test.YtnpkjakkjfjikaaDoorWArr
import Derived.Test.YtnpkjakkjfjikaaDoorWZeros
import Derived.Test.YtnpkjakkjfjikaaDoorWFoot
import Derived.Test.YtnpkjakkjfjikaaDoorWKept
import Derived.Test.YtnpkjakkjfjikaaDoorWShare
import Derived.Test.YtnpkjakkjfjikaaDoorWN
import Derived.Test.YtnpkjakkjfjikaaDoorWEqStruct
import Derived.Test.YtnpkjakkjfjikaaDoorWRepsOne
import Derived.Test.YtnpkjakkjfjikaaDoorWGuard
import Derived.Test.YtnpkjakkjfjikaaDoorWNEv
import Derived.Test.YtnpkjakkjfjikaaDoorWMore
import Derived.Test.YtnpkjakkjfjikaaDoorGTabs
import Derived.Test.YtnpkjakkjfjikaaDoorGShelf
namespace Go.Proofs.YtnpkjakkjfjikaaDoor.All
open Go.RowKit Go.Proofs.YtnpkjakkjfjikaaDoorW.PrintWords Go.Proofs.YtnpkjakkjfjikaaDoorW.PrintLast Go.Proofs.YtnpkjakkjfjikaaDoorW.PrintMore Go.Proofs.YtnpkjakkjfjikaaDoor.G
attribute [local go_sem] max2_int min2_int max_two min_two max_three min_three max_four min_four str_leq str_gtr str_geq   -- for this text's walks alone
set_option linter.unusedVariables false
set_option linter.unusedSimpArgs false



def errW : Option Int → Value
  | none => .nilIface
  | some c => .iface 0 (.int .i64 c)
theorem errW_none : errW none = .nilIface := rfl
theorem errW_some (c : Int) : errW (some c) = .iface 0 (.int .i64 c) := rfl

theorem info3 : (Tryd.prog.info? 3).map (fun i => (i.zero, i.size, i.bytes)) = some (some (.int .i64 0), 1, 8) := by kernel_rfl
theorem info5 : (Tryd.prog.info? 5).map (fun i => (i.zero, i.size, i.bytes)) = some (some (.int .u8 0), 1, 1) := by kernel_rfl
-- the values' own types

end Go.Proofs.YtnpkjakkjfjikaaDoor.All
