/- The law RecordBack over what the printed functions compute. -/
import Derived.Test.YtempfafkfkcelaaDoorAll12
import Derived.Test.YtempfafkfkcelaaDoorR20s
namespace Go.Proofs.YtempfafkfkcelaaDoor.Pure
open Go.RowKit Go.Proofs.YtempfafkfkcelaaDoorW.PrintWords Go.Proofs.YtempfafkfkcelaaDoor.All Go.Proofs.YtempfafkfkcelaaDoor.Ba Go.Proofs.YtempfafkfkcelaaDoor.Re Go.Lib

theorem rdOf_mid (p q : List ByteArray) (x : ByteArray) : rdOf ByteArray.empty (p ++ x :: q) (p.length : Int) = x := by
  rw [rdOf_at _ _ (by simp), List.getElem_append_right (Nat.le_refl _)]
  simp
/-- One record is read: its mark and its data. -/
theorem read_line {c : UInt8} {d : List UInt8} {n : Nat} (hc : (c.toNat : Int) = 32 ∨ (c.toNat : Int) = 88 ∨ (c.toNat : Int) = 42) (hd' : d.length ≤ 71) (hp : plainL d = true) (hn : I (n : Int)) :
    Ev (fun k => record_Read.f k (ba (lineL c d n)) (n : Int)) ((c.toNat : Int), ba (d ++ List.replicate (71 - d.length) 32), true) := by
  have h := read_ev (ba (lineL c d n)) (n : Int) hn
  rw [ba_data, read_ok ((readOk_line hc hd' hp (by omega)).2 (by rw [Int.toNat_natCast])), hd_line, mid_line c n hd'] at h
  exact h
theorem back_loop (a0 : ByteArray) (a1 : Int) (N : Nat) (hN : (N : Int) = a1) (hN2 : a1 ≤ 1099511627776) (hs : a0.data.toList.length ≤ 500) :
    ∀ (m : Nat) (s : List UInt8), s.length = m → 0 < m → plainL s = true → ∀ (p x9 : List ByteArray) (l : List ByteArray), l = p ++ putM s (N + p.length) → x9.length = p.length → p.length ≤ 500 → joinB x9 ++ s = a0.data.toList ++ [36] → l.length = a0.data.toList.length / 71 + 1 →
    Ev (fun k => decklelaw20_RecordBack_t.l1 k a0 a1 true l true x9 (p.length : Int)) true := by
  intro m
  induction m using Nat.strongRecOn with
  | _ m ih =>
    intro s hm h0 hp p x9 l hl hx hp5 hj hL
    subst hm
    have hz := size_data a0
    have hi : I ((N + p.length : Nat) : Int) := by unfold I; omega
    have hw : wrap64 (a1 + (p.length : Int)) = ((N + p.length : Nat) : Int) := by rw [wrapI (by unfold I; omega)]; omega
    have hwl : wrap64 ((l.length : Int) - 1) = (l.length : Int) - 1 := wrapI (by unfold I; omega)
    refine Ev.step (fun _ => decklelaw20_RecordBack_t.l1.eq_2 ..) ?_
    by_cases c : 71 < s.length
    · rw [putM_far c] at hl
      have hlp : p.length < l.length := by rw [hl]; simp
      have hlast : ¬ (p.length : Int) = wrap64 ((l.length : Int) - 1) := by
        rw [hwl, hl, List.length_append, List.length_cons, putM_length _ _ rfl (by rw [List.length_drop]; omega)]
        omega
      have hd71 : (s.take 71).length = 71 := by simp; omega
      refine Ev.if_pos (by omega) (Ev.if_pos (by omega) ?_)
      rw [hw]
      have er : rdOf ByteArray.empty l (p.length : Int) = ba (lineL 32 (s.take 71) (N + p.length)) := by rw [hl]; exact rdOf_mid _ _ _
      rw [er]
      refine Ev.bind (read_line (.inl rfl) (by omega) (plainL_take _ hp) hi) ?_
      rw [hd71, Nat.sub_self, List.replicate_zero, List.append_nil]
      refine Ev.if_neg hlast (Ev.if_pos rfl (Ev.if_pos rfl (Ev.if_pos (by rw [ba_size, hd71]; rfl) (Ev.if_pos (by rw [ba_size, lineL_length _ _ _ (by omega)]; rfl) (Ev.if_pos (by omega) ?_)))))
      have ih' := ih (s.drop 71).length (by rw [List.length_drop]; omega) (s.drop 71) rfl (by rw [List.length_drop]; omega) (plainL_drop _ hp) (p ++ [ba (lineL 32 (s.take 71) (N + p.length))]) (x9 ++ [ba (s.take 71)]) l (by rw [hl, List.append_assoc, List.length_append]; rfl) (by simp [hx]) (by rw [List.length_append, List.length_singleton]; omega) (by
        rw [joinB_append, joinB_cons, joinB_nil, ba_data, List.append_nil, List.append_assoc, List.take_append_drop]
        exact hj) hL
      rw [List.length_append, List.length_singleton] at ih'
      rw [wrapI (by unfold I; omega)]
      exact ih'
    · rw [putM_near c] at hl
      have hlp : l.length = p.length + 1 := by rw [hl]; simp
      refine Ev.if_pos (by omega) (Ev.if_pos (by omega) ?_)
      rw [hw]
      have er : rdOf ByteArray.empty l (p.length : Int) = ba (lineL 88 s (N + p.length)) := by rw [hl]; exact rdOf_mid _ _ _
      rw [er]
      refine Ev.bind (read_line (.inr (.inl rfl)) (by omega) hp hi) ?_
      refine Ev.if_pos (by rw [hwl]; omega) (Ev.if_pos rfl (Ev.if_pos rfl (Ev.if_pos (by rw [ba_size, pad_length (by omega)]; rfl) (Ev.if_pos (by rw [ba_size, lineL_length _ _ _ (by omega)]; rfl) (Ev.if_pos (by omega) ?_)))))
      rw [wrapI (by unfold I; omega)]
      refine Ev.step (fun _ => decklelaw20_RecordBack_t.l1.eq_2 ..) (Ev.if_neg (by omega) ?_)
      have j : joinB (x9 ++ [ba (s ++ List.replicate (71 - s.length) 32)]) = a0.data.toList ++ [36] ++ List.replicate (71 - s.length) 32 := by
        rw [joinB_append, joinB_cons, joinB_nil, ba_data, List.append_nil, ← List.append_assoc, hj]
      refine Ev.bind0 (get_f _ (by rw [j, List.length_append, List.length_append, List.length_replicate, List.length_singleton]; omega) (by rw [List.length_append, List.length_singleton]; omega)) ?_
      rw [j, getV_spaces, getV_end, ba_self]
      refine Ev.if_pos rfl (Ev.if_pos rfl (Ev.if_pos rfl (Ev.if_pos rfl (Ev.const fun k => ?_))))
      have e : (l.length : Int) = wrap64 (wrap64 ((a0.size : Int) / 71) + 1) := by
        rw [wrapI (n := (a0.size : Int) / 71) (by unfold I; omega), wrapI (by unfold I; omega), hL]
        omega
      rw [← e]
      simp
/-- The signs are looked through. -/
theorem back_plain (a0 : ByteArray) (a1 : Int) (l : List ByteArray) (hs : a0.data.toList.length ≤ 500) (hp : plainL a0.data.toList = true) (h : Ev (fun k => decklelaw20_RecordBack_t.l1 k a0 a1 true l true [] 0) true) :
    ∀ (m i : Nat), i + m = a0.data.toList.length → Ev (fun k => decklelaw20_RecordBack_t.l0 k a0 a1 true l true (i : Int)) true
  | 0, i, hi => by
    have hz := size_data a0
    exact Ev.step (fun _ => decklelaw20_RecordBack_t.l0.eq_2 ..) (Ev.if_neg (by omega) h)
  | m + 1, i, hi => by
    have hz := size_data a0
    have ih := back_plain a0 a1 l hs hp h m (i + 1) (by omega)
    have hlt : i < a0.data.toList.length := by omega
    have hc : plainC a0.data.toList[i] = true := (List.all_eq_true.1 hp) _ (List.getElem_mem hlt)
    unfold plainC at hc
    simp only [Bool.and_eq_true, decide_eq_true_eq] at hc
    refine Ev.step (fun _ => decklelaw20_RecordBack_t.l0.eq_2 ..) (Ev.if_pos (by omega) (Ev.if_pos (by omega) ?_))
    rw [bt_data a0 i hlt]
    have n1 : ¬ (a0.data.toList[i].toNat : Int) < 32 := by
      generalize a0.data.toList[i] = x at hc
      omega
    have n2 : ¬ (a0.data.toList[i].toNat : Int) > 126 := by
      generalize a0.data.toList[i] = x at hc
      omega
    refine Ev.if_neg n1 (Ev.if_neg n2 ?_)
    rw [wrapI (by unfold I; omega)]
    exact ih
theorem back_not (a0 : ByteArray) (a1 : Int) (hs : a0.data.toList.length ≤ 500) : ∀ (m i : Nat), i + m = a0.data.toList.length → plainL (a0.data.toList.drop i) = false → Ev (fun k => decklelaw20_RecordBack_t.l0 k a0 a1 true [] false (i : Int)) true
  | 0, i, hi, hp => by
    rw [List.drop_eq_nil_of_le (by omega)] at hp
    cases hp
  | m + 1, i, hi, hp => by
    have hz := size_data a0
    have hlt : i < a0.data.toList.length := by omega
    rw [List.drop_eq_getElem_cons hlt] at hp
    have e : plainL (a0.data.toList[i] :: a0.data.toList.drop (i + 1)) = (plainC a0.data.toList[i] && plainL (a0.data.toList.drop (i + 1))) := rfl
    rw [e] at hp
    refine Ev.step (fun _ => decklelaw20_RecordBack_t.l0.eq_2 ..) (Ev.if_pos (by omega) (Ev.if_pos (by omega) ?_))
    rw [bt_data a0 i hlt]
    by_cases h1 : (a0.data.toList[i].toNat : Int) < 32
    · exact Ev.if_pos h1 (Ev.if_pos rfl (Ev.if_neg (by decide) (Ev.const fun k => rfl)))
    · refine Ev.if_neg h1 ?_
      by_cases h2 : (a0.data.toList[i].toNat : Int) > 126
      · exact Ev.if_pos h2 (Ev.if_pos rfl (Ev.if_neg (by decide) (Ev.const fun k => rfl)))
      · refine Ev.if_neg h2 ?_
        have hc : plainC a0.data.toList[i] = true := by
          show (decide _ && decide _) = true
          rw [decide_eq_true (by omega), decide_eq_true (by omega)]
          rfl
        rw [hc, Bool.true_and] at hp
        rw [wrapI (by unfold I; omega)]
        exact back_not a0 a1 hs m (i + 1) (by omega) hp
theorem RecordBack (a0 : ByteArray) (a1 : Int) (_h0 : a0.size ≤ 140737488351232) (h1 : I a1) : ∃ k, decklelaw20_RecordBack_t.f k a0 a1 = some true := by
  refine Ev.rounds (g := fun k => decklelaw20_RecordBack_t.f k a0 a1) ?_
  unfold decklelaw20_RecordBack_t.f
  refine Ev.bind small_ev ?_
  have hz := size_data a0
  by_cases c0 : (a0.size : Int) > 500
  · exact Ev.if_pos c0 (Ev.now _)
  refine Ev.if_neg c0 ?_
  by_cases c1 : a1 < 0
  · exact Ev.if_pos c1 (Ev.now _)
  refine Ev.if_neg c1 ?_
  by_cases c2 : a1 > 1099511627776
  · exact Ev.if_pos c2 (Ev.now _)
  refine Ev.if_neg c2 (Ev.bind (put_ev _ _ h1 (by omega)) ?_)
  unfold putV
  cases hp : plainL a0.data.toList with
  | false =>
    rw [if_neg (fun k => by cases k.1)]
    exact back_not a0 a1 (by omega) a0.data.toList.length 0 (by omega) hp
  | true =>
    rw [if_pos ⟨rfl, by omega⟩]
    have hl : (putL (a0.data.toList ++ [36]) a1.toNat).length = a0.data.toList.length / 71 + 1 := by
      rw [putL_eq, putM_length _ _ rfl (by simp)]
      simp
    have hb := back_loop a0 a1 a1.toNat (by omega) (by omega) (by omega) (a0.data.toList ++ [36]).length (a0.data.toList ++ [36]) rfl (by simp) (by rw [plainL_append, hp]; rfl) [] [] (putL (a0.data.toList ++ [36]) a1.toNat) (by rw [putL_eq]; rfl) rfl (by simp) rfl hl
    exact back_plain a0 a1 _ (by omega) hp hb a0.data.toList.length 0 (by omega)
end Go.Proofs.YtempfafkfkcelaaDoor.Pure
