/- The law DecimalTells over what the printed functions compute. -/
import Derived.Test.YtnpkjakkjfjikaaDoorAll15
import Derived.Test.YtnpkjakkjfjikaaDoorDeRef
import Derived.Test.YtnpkjakkjfjikaaDoorD6s
namespace Go.Proofs.YtnpkjakkjfjikaaDoor.Pure
open Go.RowKit Go.Proofs.YtnpkjakkjfjikaaDoorW.PrintWords Go.Proofs.YtnpkjakkjfjikaaDoor.All Go.Proofs.YtnpkjakkjfjikaaDoor.Dm Go.Proofs.YtnpkjakkjfjikaaDoor.Ba Go.Proofs.YtnpkjakkjfjikaaDoor.De Go.Proofs.YtnpkjakkjfjikaaDoor.DeRef Go.Lib

theorem DecimalTells (a0_0 a0_1 a1_0 a1_1 a2 : Int) (a3 : ByteArray) (h1 : I a0_0) (h2 : I a0_1) (h3 : I a1_0) (h4 : I a1_1) (h5 : I a2) (_h6 : a3.size ≤ 140737488351232) :
    ∃ k, decklelaw06_DecimalTells_t.f k a0_0 a0_1 a1_0 a1_1 a2 a3 = some true := by
  refine Ev.rounds (g := fun k => decklelaw06_DecimalTells_t.f k a0_0 a0_1 a1_0 a1_1 a2 a3) ?_
  unfold decklelaw06_DecimalTells_t.f
  refine Ev.bind small_ev ?_
  by_cases hs : (a3.size : Int) > 100
  · exact Ev.if_pos hs (Ev.now _)
  · have hp := rparse_ev a3.data.toList
    rw [ba_self, rparse_eq] at hp
    refine Ev.if_neg hs (Ev.bind (norm_ev _ _ h1 h2) (Ev.bind (rnorm_ev _ _ h1 h2) (Ev.bind (whole_ev _ _ h1 h2) (Ev.bind (rwhole_ev _ _ h1 h2) (Ev.bind (parse_ev a3 (by omega)) (Ev.bind hp ?_))))))
    refine Ev.if_pos rfl (Ev.if_pos (by simp) (Ev.if_pos (by simp) (Ev.bind (right_ev' _ _ h1 h2) (Ev.bind (rright_ev _ _ h1 h2) (Ev.if_pos (by simp) (Ev.if_pos rfl (Ev.if_pos (by simp) (Ev.if_pos (by simp) (Ev.if_pos (by simp) ?_)))))))))
    refine Ev.bind (of_ev _ h5) (Ev.bind (rof_ev _ h5) (Ev.if_pos (by simp) (Ev.bind (text_ev _ _ h1 h2) (Ev.bind (rtext_ev _ _ h1 h2) (Ev.if_pos rfl ?_)))))
    exact Ev.bind (compare_ev _ _ _ _ h1 h2 h3 h4) (Ev.bind (rcompare_ev _ _ _ _ h1 h2 h3 h4) (Ev.const fun k => by simp))
end Go.Proofs.YtnpkjakkjfjikaaDoor.Pure
