/- The law SignsTells over what the printed functions compute. -/
import Derived.Test.YtenngdkgahngjaaDoorAll7
import Derived.Test.YtenngdkgahngjaaDoorS07s
import Derived.Test.YtenngdkgahngjaaDoorSiRef
namespace Go.Proofs.YtenngdkgahngjaaDoor.Pure
open Go.RowKit Go.Proofs.YtenngdkgahngjaaDoorW.PrintWords Go.Proofs.YtenngdkgahngjaaDoor.All Go.Proofs.YtenngdkgahngjaaDoor.Ba Go.Proofs.YtenngdkgahngjaaDoor.Si Go.Lib

theorem SignsTells (a0 a1 : ByteArray) (_w0 : a0.size ≤ 140737488351232) (_w1 : a1.size ≤ 140737488351232) : ∃ k, decklelaw07_SignsTells_t.f k a0 a1 = some true := by
  refine Ev.rounds (g := fun k => decklelaw07_SignsTells_t.f k a0 a1) ?_
  unfold decklelaw07_SignsTells_t.f
  refine Ev.bind0 small_f ?_
  by_cases hs : (a0.size : Int) > 500
  · exact Ev.if_pos hs (Ev.now _)
  by_cases ht : (a1.size : Int) > 500
  · exact Ev.if_neg hs (Ev.if_pos ht (Ev.now _))
  have hz := size_data a0
  have hy := size_data a1
  have r1 := SiRef.resc_ev a0.data.toList (by omega)
  have r2 := SiRef.run_ev a1.data.toList (by omega)
  have r3 := SiRef.rright_ev a0.data.toList (by omega)
  rw [ba_self] at r1 r2 r3
  refine Ev.if_neg hs (Ev.if_neg ht (Ev.bind0 (esc_f _ (by omega)) (Ev.bind r1 (Ev.bind0 (un_f _ (by omega)) (Ev.bind r2 (Ev.if_pos rfl (Ev.bind0 (right_f _ (by omega)) (Ev.bind r3 ?_))))))))
  exact Ev.if_pos (by simp) (Ev.if_pos rfl (Ev.if_pos (by simp) (Ev.if_pos rfl (Ev.const fun k => by simp))))
end Go.Proofs.YtenngdkgahngjaaDoor.Pure
