/- Walks of the library's generic functions over rows, at this program's types. Printed by wip/tools/hk.py. -/
import Derived.Test.YtfdeheodjkpkkaaGreatDoorP18All0
import Derived.Shelf.Abstract
set_option linter.unusedVariables false
set_option linter.unusedSimpArgs false
set_option linter.unusedSectionVars false
namespace Go.Proofs.YtfdeheodjkpkkaaGreatDoor.All
open Go.RowKit Go.Proofs.YtfdeheodjkpkkaaGreatDoorW.PrintWords Go.Proofs.YtfdeheodjkpkkaaGreatDoorW.PrintLast Go.Proofs.YtfdeheodjkpkkaaGreatDoorW.PrintMore Go.Proofs.YtfdeheodjkpkkaaGreatDoor.G
set_option linter.unusedVariables false
set_option linter.unusedSimpArgs false
set_option maxHeartbeats 4000000
set_option maxRecDepth 1000000
theorem rd_nat {α : Type} (l : List α) (d : α) (k : Nat) (hk : k < l.length) : l.getD ((k : Int).toNat) d = l[k] := by simp [hk]
theorem C_str {w : World} {A : Option Addr} {l : List ByteArray} (h : Kd.string.C w A l.length l) (k : Nat) (hk : k < l.length) : ∃ ad, A = some ad ∧ w.cell? (ad.add k) = some (.string l[k]) := by
  obtain ⟨ad, c, e, _, hK, hc⟩ := Kd.C_get h ByteArray.empty (k : Int) (by omega) (by omega)
  rw [rd_nat _ _ _ hk] at hK
  obtain rfl : c = [.string l[k]] := hK
  refine ⟨ad, e, ?_⟩
  have := hc 0 _ rfl
  have e1 : (k : Int).toNat * Kd.string.sz + 0 = k := by show (k : Int).toNat * 1 + 0 = k; omega
  rwa [e1] at this
theorem inf_Node : (Tryz.prog.info? 37).map (fun i => (i.zero, i.size, i.bytes)) = some (some (.agg #[(.int .i64 0), (.slice none 0 0), (.slice none 0 0), (.slice none 0 0)]), 4, 80) := by kernel_rfl
end Go.Proofs.YtfdeheodjkpkkaaGreatDoor.All
