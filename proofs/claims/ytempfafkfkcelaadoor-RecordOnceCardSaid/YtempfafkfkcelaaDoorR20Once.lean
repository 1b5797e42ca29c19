/- The law RecordOnce over what the printed functions compute. -/
import Derived.Test.YtempfafkfkcelaaDoorAll13
import Derived.Test.YtempfafkfkcelaaDoorR20s
namespace Go.Proofs.YtempfafkfkcelaaDoor.Pure
open Go.RowKit Go.Proofs.YtempfafkfkcelaaDoorW.PrintWords Go.Proofs.YtempfafkfkcelaaDoor.All Go.Proofs.YtempfafkfkcelaaDoor.Ba Go.Proofs.YtempfafkfkcelaaDoor.Re Go.Lib

theorem RecordOnce (a0 : ByteArray) (a1 : Int) (_h0 : a0.size ≤ 140737488351232) (h1 : I a1) : ∃ k, decklelaw20_RecordOnce_t.f k a0 a1 = some true := by
  refine Ev.rounds (g := fun k => decklelaw20_RecordOnce_t.f k a0 a1) ?_
  unfold decklelaw20_RecordOnce_t.f
  refine Ev.bind small_ev ?_
  by_cases hs : (a0.size : Int) > 500
  · exact Ev.if_pos hs (Ev.now _)
  refine Ev.if_neg hs (Ev.bind (read_ev _ _ h1) ?_)
  by_cases c : readOk a0.data.toList a1
  · rw [read_ok c]
    have hz := size_data a0
    have hc := c.1
    refine Ev.if_pos rfl (Ev.bind0 (line_f _ _ _ h1) ?_)
    rw [ba_data, line_ok c.2.1, hd_ofNat]
    refine Ev.if_pos rfl (Ev.if_pos rfl (Ev.if_pos ?_ (Ev.if_pos (by omega) ?_)))
    · rw [ba_toList, toList_eq]
      exact (lineL_eq c.1 a1.toNat).2 c.2.2
    · exact Ev.const fun k => by rw [ba_size, mid_length c.1]; rfl
  · rw [read_no c]
    exact Ev.if_neg (by decide) (Ev.if_pos rfl (Ev.if_pos rfl (Ev.const fun k => by
      show some ((⟨#[]⟩ : ByteArray).toList == ([] : List UInt8)) = some true
      rw [toList_eq]
      rfl)))
end Go.Proofs.YtempfafkfkcelaaDoor.Pure
