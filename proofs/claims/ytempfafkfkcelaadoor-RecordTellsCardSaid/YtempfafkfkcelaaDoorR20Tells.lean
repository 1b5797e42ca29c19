/- The law RecordTells over what the printed functions compute. -/
import Derived.Test.YtempfafkfkcelaaDoorAll11
import Derived.Test.YtempfafkfkcelaaDoorR20s
namespace Go.Proofs.YtempfafkfkcelaaDoor.Pure
open Go.RowKit Go.Proofs.YtempfafkfkcelaaDoorW.PrintWords Go.Proofs.YtempfafkfkcelaaDoor.All Go.Proofs.YtempfafkfkcelaaDoor.Ba Go.Proofs.YtempfafkfkcelaaDoor.Re Go.Lib

theorem RecordTells (a0 : Int) (a1 : ByteArray) (a2 : Int) (l3 : List ByteArray) (_h0 : (Lit.int .u8 a0).wf = true) (h1 : a1.size ≤ 140737488351232) (h2 : I a2) (h3 : l3.length ≤ 140737488351232) :
    ∃ k, decklelaw20_RecordTells_t.f k a0 a1 a2 l3 = some true := by
  refine Ev.rounds (g := fun k => decklelaw20_RecordTells_t.f k a0 a1 a2 l3) ?_
  unfold decklelaw20_RecordTells_t.f
  refine Ev.bind small_ev ?_
  obtain ⟨r, e1, e2⟩ := few_ev l3 (by omega)
  refine Ev.bind e1 ?_
  cases r with
  | false => exact Ev.if_neg (by decide) (Ev.now _)
  | true =>
    have hf := e2 rfl
    refine Ev.if_pos rfl ?_
    by_cases hs : (a1.size : Int) > 500
    · exact Ev.if_pos hs (Ev.now _)
    · have hl := putV_length a1.data.toList a2
      rw [← size_data] at hl
      have hj := hf.2.1
      refine Ev.if_neg hs (Ev.bind0 (line_f _ _ _ h2) (Ev.bind (rline_ev _ _ _ h2 (by omega)) (Ev.bind (read_ev _ _ h2) (Ev.bind (rread_ev _ _ h2 (by omega)) (Ev.bind (put_ev _ _ h2 (by omega)) (Ev.bind (rput_ev _ _ h2 (by omega)) (Ev.bind0 (get_f _ (by omega) (by omega)) (Ev.bind (rget_ev _ (by omega) (by omega)) ?_))))))))
      refine Ev.if_pos rfl (Ev.if_pos rfl (Ev.if_pos (by simp) (Ev.if_pos rfl (Ev.if_pos rfl (Ev.if_pos (by simp) (Ev.bind (same_ev _ (by omega)) (Ev.if_pos rfl (Ev.if_pos (by simp) (Ev.if_pos rfl (Ev.const fun k => by simp))))))))))
end Go.Proofs.YtempfafkfkcelaaDoor.Pure
