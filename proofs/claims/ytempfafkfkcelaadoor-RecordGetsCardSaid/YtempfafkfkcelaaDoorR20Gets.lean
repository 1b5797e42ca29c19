/- The law RecordGets over what the printed functions compute. -/
import Derived.Test.YtempfafkfkcelaaDoorAll14
import Derived.Test.YtempfafkfkcelaaDoorR20s
namespace Go.Proofs.YtempfafkfkcelaaDoor.Pure
open Go.RowKit Go.Proofs.YtempfafkfkcelaaDoorW.PrintWords Go.Proofs.YtempfafkfkcelaaDoor.All Go.Proofs.YtempfafkfkcelaaDoor.Ba Go.Proofs.YtempfafkfkcelaaDoor.Re Go.Lib

theorem RecordGets (a0 : ByteArray) (a1 a2 : Int) (_h0 : a0.size ≤ 140737488351232) (_h1 : I a1) (_h2 : I a2) : ∃ k, decklelaw20_RecordGets_t.f k a0 a1 a2 = some true := by
  refine Ev.rounds (g := fun k => decklelaw20_RecordGets_t.f k a0 a1 a2) ?_
  unfold decklelaw20_RecordGets_t.f
  refine Ev.bind small_ev ?_
  have hz := size_data a0
  by_cases c0 : (a0.size : Int) > 300
  · exact Ev.if_pos c0 (Ev.now _)
  refine Ev.if_neg c0 ?_
  by_cases c1 : a1 < 0
  · exact Ev.if_pos c1 (Ev.now _)
  refine Ev.if_neg c1 ?_
  by_cases c2 : a1 > 100
  · exact Ev.if_pos c2 (Ev.now _)
  refine Ev.if_neg c2 ?_
  by_cases c3 : a2 < 0
  · exact Ev.if_pos c3 (Ev.now _)
  refine Ev.if_neg c3 ?_
  by_cases c4 : a2 > (a0.size : Int)
  · exact Ev.if_pos c4 (Ev.now _)
  have e0 : a0 ++ (⟨#[36]⟩ : ByteArray) = ba (a0.data.toList ++ [36]) := by
    have := ba_append a0.data.toList [36]
    rw [ba_self] at this
    exact this
  refine Ev.if_neg c4 (Ev.if_pos (by omega) (Ev.bind (spaces_ev a1 (by omega) (by omega)) ?_))
  rw [e0, ba_size, ba_size]
  refine Ev.if_pos (by simp; omega) (Ev.bind (spaces_ev 3 (by decide) (by decide)) ?_)
  rw [ba_append]
  have j1 : joinB [ba (a0.data.toList ++ [36] ++ List.replicate a1.toNat 32), ba (List.replicate (3 : Int).toNat 32)] = a0.data.toList ++ [36] ++ List.replicate (a1.toNat + 3) 32 := by
    rw [joinB_cons, joinB_cons, joinB_nil, ba_data, ba_data, List.append_nil, List.append_assoc, List.append_assoc, List.append_assoc]
    rw [← List.replicate_append_replicate]
    rfl
  refine Ev.bind0 (get_f _ (by rw [j1]; simp; omega) (by simp)) (Ev.if_pos (by omega) (Ev.if_pos (by omega) ?_))
  rw [j1, getV_spaces, getV_end]
  have hk : a0.extract 0 (a2.toNat) = ba (a0.data.toList.take a2.toNat) := by
    have := ba_extract a0.data.toList 0 a2.toNat
    rw [ba_self] at this
    rw [this]
    simp
  have hk2 : a0.extract (a2.toNat) a0.size = ba (a0.data.toList.drop a2.toNat) := by
    have := ba_extract a0.data.toList a2.toNat a0.size
    rw [ba_self] at this
    rw [this, List.take_of_length_le (by rw [List.length_drop]; omega)]
  rw [hk, hk2]
  have j2 : joinB [ba (a0.data.toList.take a2.toNat), ba (a0.data.toList.drop a2.toNat), (⟨#[36]⟩ : ByteArray)] = a0.data.toList ++ [36] := by
    rw [joinB_cons, joinB_cons, joinB_cons, joinB_nil, ba_data, ba_data, ← List.append_assoc, List.take_append_drop]
    rfl
  refine Ev.bind0 (get_f _ (by rw [j2]; simp; omega) (by simp)) (Ev.bind (spaces_ev a1 (by omega) (by omega)) ?_)
  rw [j2, getV_end]
  have j3 : joinB [ba (a0.data.toList ++ [36]), ba (List.replicate a1.toNat 32), (⟨#[46]⟩ : ByteArray)] = (a0.data.toList ++ [36] ++ List.replicate a1.toNat 32) ++ [46] := by
    rw [joinB_cons, joinB_cons, joinB_cons, joinB_nil, ba_data, ba_data, ← List.append_assoc]
    rfl
  refine Ev.bind0 (get_f _ (by rw [j3]; simp; omega) (by simp)) ?_
  rw [j3, getV_dot, ba_self]
  exact Ev.if_pos rfl (Ev.if_pos rfl (Ev.if_pos rfl (Ev.if_pos rfl (Ev.if_pos rfl (Ev.const fun k => rfl)))))
end Go.Proofs.YtempfafkfkcelaaDoor.Pure
