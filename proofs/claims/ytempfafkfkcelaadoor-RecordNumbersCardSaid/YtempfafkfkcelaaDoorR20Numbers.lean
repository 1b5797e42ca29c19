/- The law RecordNumbers over what the printed functions compute. -/
import Derived.Test.YtempfafkfkcelaaDoorAll15
import Derived.Test.YtempfafkfkcelaaDoorR20s
namespace Go.Proofs.YtempfafkfkcelaaDoor.Pure
open Go.RowKit Go.Proofs.YtempfafkfkcelaaDoorW.PrintWords Go.Proofs.YtempfafkfkcelaaDoor.All Go.Proofs.YtempfafkfkcelaaDoor.Ba Go.Proofs.YtempfafkfkcelaaDoor.Re Go.Lib

theorem RecordNumbers (a0 : ByteArray) (a1 a2 : Int) (_h0 : a0.size ≤ 140737488351232) (h1 : I a1) (h2 : I a2) : ∃ k, decklelaw20_RecordNumbers_t.f k a0 a1 a2 = some true := by
  refine Ev.rounds (g := fun k => decklelaw20_RecordNumbers_t.f k a0 a1 a2) ?_
  unfold decklelaw20_RecordNumbers_t.f
  refine Ev.bind small_ev (Ev.bind0 (line_f _ _ _ h1) (Ev.bind0 (line_f _ _ _ h2) ?_))
  by_cases hs : (a0.size : Int) > 71
  · exact Ev.if_pos hs (Ev.now _)
  refine Ev.if_neg hs ?_
  by_cases c1 : a1 < 0
  · exact Ev.if_pos c1 (Ev.now _)
  refine Ev.if_neg c1 ?_
  by_cases c2 : a2 < 0
  · exact Ev.if_pos c2 (Ev.now _)
  refine Ev.if_neg c2 ?_
  have hz := size_data a0
  by_cases ok1 : okP 88 a0.data.toList a1
  · have ok2 : okP 88 a0.data.toList a2 := ⟨ok1.1, ok1.2.1, ok1.2.2.1, by omega⟩
    rw [line_ok ok1, line_ok ok2]
    refine Ev.if_pos rfl (Ev.bind (read_ev _ _ h2) (Ev.if_pos rfl (Ev.if_pos rfl ?_)))
    have hl : a0.data.toList.length ≤ 71 := ok1.2.2.1
    rw [ba_data, ba_toList, ba_toList, show UInt8.ofNat (88 : Int).toNat = 88 from rfl]
    have e1 : (lineL 88 a0.data.toList a1.toNat == lineL 88 a0.data.toList a2.toNat) = decide (num8 a1.toNat = num8 a2.toNat) := by
      rw [Bool.eq_iff_iff, beq_iff_eq, decide_eq_true_eq]
      exact lineL_iff 88 _ _ hl
    have e2 : (Int.tmod a1 100000000 == Int.tmod a2 100000000) = decide (num8 a1.toNat = num8 a2.toNat) := by
      rw [Bool.eq_iff_iff, beq_iff_eq, decide_eq_true_eq, num8_iff, Int.tmod_eq_emod_of_nonneg (by omega), Int.tmod_eq_emod_of_nonneg (by omega)]
      omega
    have e3 : (readV (lineL 88 a0.data.toList a1.toNat) a2).2.2 = decide (num8 a1.toNat = num8 a2.toNat) := by
      have hr := readOk_line (c := 88) (n := a1.toNat) (.inr (.inl rfl)) hl ok1.2.1 (m := a2) (by omega)
      by_cases h : num8 a1.toNat = num8 a2.toNat
      · rw [read_ok (hr.2 h), decide_eq_true h]
      · rw [read_no (fun k => h (hr.1 k)), decide_eq_false h]
    rw [e1, e2, e3]
    refine Ev.if_pos (by simp) (Ev.if_pos (by simp) (Ev.const fun k => ?_))
    rw [ba_size, lineL_length _ _ _ hl]
    rfl
  · rw [line_no ok1]
    exact Ev.if_neg (by decide) (Ev.now _)
end Go.Proofs.YtempfafkfkcelaaDoor.Pure
