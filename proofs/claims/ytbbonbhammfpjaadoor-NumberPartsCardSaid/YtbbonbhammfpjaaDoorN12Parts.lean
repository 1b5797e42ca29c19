/- The law NumberParts over what the printed functions compute. -/
import Derived.Test.YtbbonbhammfpjaaDoorAll18
import Derived.Test.YtbbonbhammfpjaaDoorN12s
namespace Go.Proofs.YtbbonbhammfpjaaDoor.Pure
open Go.RowKit Go.Proofs.YtbbonbhammfpjaaDoorW.PrintWords Go.Proofs.YtbbonbhammfpjaaDoor.All Go.Proofs.YtbbonbhammfpjaaDoor.Dm Go.Proofs.YtbbonbhammfpjaaDoor.Ba Go.Proofs.YtbbonbhammfpjaaDoor.De Go.Proofs.YtbbonbhammfpjaaDoor.Nu Go.Proofs.YtbbonbhammfpjaaDoor.NuP Go.Lib

theorem parts_l2 (a d : List S28) (la : a.length ≤ 1000) (ld : d.length ≤ 1000) : ∀ (m i : Nat), d.length = i + m → Ev (fun k => decklelaw12_NumberParts_t.l2 k true a d (a ++ d) (i : Int)) true
  | 0, i, hd => Ev.step (fun _ => decklelaw12_NumberParts_t.l2.eq_2 ..) (Ev.if_neg (by omega) (Ev.now _))
  | m + 1, i, hd => by
    have ih := parts_l2 a d la ld m (i + 1) (by omega)
    have hw : wrap64 ((a.length : Int) + (i : Int)) = ((a.length + i : Nat) : Int) := by rw [wrapI (by unfold I; omega)]; omega
    have e : rd_T28 (a ++ d) ((a.length + i : Nat) : Int) = rd_T28 d (i : Int) := by
      rw [rdT_at _ _ (by rw [List.length_append]; omega), rdT_at _ _ (by omega), List.getElem_append_right (by omega)]
      congr 1
      omega
    refine Ev.step (fun _ => decklelaw12_NumberParts_t.l2.eq_2 ..) (Ev.if_pos (by omega) ?_)
    rw [hw, e]
    refine Ev.if_pos (by omega) (Ev.if_pos (by rw [List.length_append]; omega) (Ev.if_pos (by omega) (Ev.if_neg (same_no _ _ _ _ rfl rfl) ?_)))
    rw [wrapI (by unfold I; omega)]
    exact ih
theorem parts_l1 (a d : List S28) (la : a.length ≤ 1000) (ld : d.length ≤ 1000) : ∀ (m i : Nat), a.length = i + m → Ev (fun k => decklelaw12_NumberParts_t.l1 k true a d (a ++ d) (i : Int)) true
  | 0, i, hd => Ev.step (fun _ => decklelaw12_NumberParts_t.l1.eq_2 ..) (Ev.if_neg (by omega) (parts_l2 a d la ld d.length 0 (Nat.zero_add _).symm))
  | m + 1, i, hd => by
    have ih := parts_l1 a d la ld m (i + 1) (by omega)
    have e : rd_T28 (a ++ d) (i : Int) = rd_T28 a (i : Int) := by
      rw [rdT_at _ _ (by rw [List.length_append]; omega), rdT_at _ _ (by omega), List.getElem_append_left (by omega)]
    refine Ev.step (fun _ => decklelaw12_NumberParts_t.l1.eq_2 ..) (Ev.if_pos (by omega) (Ev.if_pos (by omega) (Ev.if_pos (by rw [List.length_append]; omega) ?_)))
    rw [e]
    refine Ev.if_neg (same_no _ _ _ _ rfl rfl) ?_
    rw [wrapI (by unfold I; omega)]
    exact ih
/-- What is left is the text's end. -/
theorem suffix_f (s b : List UInt8) (hs : s.length ≤ 300) (h : b <:+ s) (hl : b.length < s.length) :
    0 ≤ wrap64 (((ba s).size : Int) - ((ba b).size : Int)) ∧ wrap64 (((ba s).size : Int) - ((ba b).size : Int)) ≤ ((ba s).size : Int) ∧ (((ba s).extract (wrap64 (((ba s).size : Int) - ((ba b).size : Int)) : Int).toNat (ba s).size).toList == (ba b).toList) = true := by
  have hw : wrap64 (((ba s).size : Int) - ((ba b).size : Int)) = ((s.length - b.length : Nat) : Int) := by
    rw [ba_size, ba_size, wrapI (by unfold I; omega)]
    omega
  obtain ⟨p, rfl⟩ := h
  rw [hw, ba_size]
  refine ⟨by omega, by omega, ?_⟩
  rw [Int.toNat_natCast, ba_extract, ba_toList, ba_toList, List.length_append, Nat.add_sub_cancel, List.drop_left, show p.length + b.length - p.length = b.length by omega, List.take_length]
  simp
theorem parts_loop (s t : List UInt8) (hs : s.length ≤ 300) (ht : t.length ≤ 300) (a : List (Int × Int)) (b : List UInt8) (hq : readL s = some (a, b)) :
    ∀ (m i : Nat), (a.map toS).length = i + m → Ev (fun k => decklelaw12_NumberParts_t.l0 k (ba s) (ba t) true (a.map toS) (ba b) true ((fstR (readL t)).map toS) (ba (match readL t with | some (_, r) => r | none => [])) (readL t).isSome (i : Int)) true
  | 0, i, hd => by
    obtain ⟨hne, hsuf, hlt, hall⟩ := readL_spec _ s (Nat.le_refl _) a b hq
    obtain ⟨s1, s2, s3⟩ := suffix_f s b hs hsuf hlt
    have hla := fstR_len _ s (Nat.le_refl _)
    rw [hq] at hla
    have hla' : a.length ≤ s.length := hla
    have ha0 : a.length ≠ 0 := fun k => hne (List.eq_nil_of_length_eq_zero k)
    have hz := ba_size s
    have hzb := ba_size b
    have hml : (a.map toS).length = a.length := List.length_map _
    have fin : Ev (fun _ => if true = true then (if ((a.map toS).length : Int) > 0 then (if ((ba b).size : Int) < ((ba s).size : Int) then (if 0 ≤ (wrap64 (((ba s).size : Int) - ((ba b).size : Int))) then (if (wrap64 (((ba s).size : Int) - ((ba b).size : Int))) ≤ ((ba s).size : Int) then (some (((ba s).extract ((wrap64 (((ba s).size : Int) - ((ba b).size : Int))) : Int).toNat (ba s).size).toList == (ba b).toList)) else (none)) else (none)) else (some false)) else (some false)) else (some false)) true :=
      Ev.if_pos rfl (Ev.if_pos (by omega) (Ev.if_pos (by omega) (Ev.if_pos s1 (Ev.if_pos s2 (Ev.const fun k => by rw [s3])))))
    refine Ev.step (fun _ => decklelaw12_NumberParts_t.l0.eq_2 ..) (Ev.if_neg (by omega) (Ev.if_pos rfl ?_))
    by_cases hb : b = []
    · refine Ev.if_pos (by rw [ba_toList]; exact hb) ?_
      cases hr : readL t with
      | none => exact Ev.if_neg (by decide) fin
      | some q =>
        obtain ⟨d, e⟩ := q
        have hld := fstR_len _ t (Nat.le_refl _)
        rw [hr] at hld
        have hld' : d.length ≤ t.length := hld
        refine Ev.if_pos rfl (Ev.if_neg (by omega) (Ev.if_neg (by omega) (Ev.if_pos (by omega) ?_)))
        rw [show ba s ++ (⟨#[32]⟩ : ByteArray) = ba (s ++ [32]) from ba_append _ [32]]
        refine Ev.if_pos (by rw [ba_size, ba_size, List.length_append]; simp; omega) ?_
        have hR := Read_ev (s ++ 32 :: t) (by rw [List.length_append, List.length_cons]; omega)
        subst hb
        rw [readL_append t d e hr s.length s (Nat.le_refl _) a hq] at hR
        rw [ba_append, List.append_assoc]
        refine Ev.bind hR (Ev.if_pos rfl (Ev.if_pos rfl (Ev.if_pos ?_ ?_)))
        · show (((a ++ d).map toS).length : Int) = _
          rw [List.length_map, List.length_append, List.length_map]
          show _ = wrap64 ((a.length : Int) + ((d.map toS).length : Int))
          rw [List.length_map, wrapI (by unfold I; omega)]
          omega
        · have := parts_l1 (a.map toS) (d.map toS) (by omega) (by rw [List.length_map]; omega) (a.map toS).length 0 (Nat.zero_add _).symm
          rw [← List.map_append] at this
          exact this
    · refine Ev.if_neg (by rw [ba_toList]; exact hb) fin
  | m + 1, i, hd => by
    obtain ⟨hne, hsuf, hlt, hall⟩ := readL_spec _ s (Nat.le_refl _) a b hq
    have hla := fstR_len _ s (Nat.le_refl _)
    rw [hq] at hla
    have hla' : a.length ≤ s.length := hla
    have hml : (a.map toS).length = a.length := List.length_map _
    have ih := parts_loop s t hs ht a b hq m (i + 1) (by omega)
    have hi : i < a.length := by omega
    have hx := hall _ (List.getElem_mem hi)
    have er : rd_T28 (a.map toS) (i : Int) = toS a[i] := by rw [rdT_at _ _ (by omega), List.getElem_map]
    refine Ev.step (fun _ => decklelaw12_NumberParts_t.l0.eq_2 ..) (Ev.if_pos (by omega) (Ev.if_pos (by omega) ?_))
    rw [er]
    refine Ev.bind (right_ev' _ _ hx.2 (isRight_I hx.1)) (Ev.if_pos (decide_eq_true (show isRight (toS a[i]).f0 (toS a[i]).f1 from hx.1)) ?_)
    rw [wrapI (by unfold I; omega)]
    exact ih
theorem NumberParts (a0 a1 : ByteArray) (_w0 : a0.size ≤ 140737488351232) (_w1 : a1.size ≤ 140737488351232) : ∃ k, decklelaw12_NumberParts_t.f k a0 a1 = some true := by
  refine Ev.rounds (g := fun k => decklelaw12_NumberParts_t.f k a0 a1) ?_
  unfold decklelaw12_NumberParts_t.f
  refine Ev.bind small_ev ?_
  by_cases c1 : (a0.size : Int) > 300
  · exact Ev.if_pos c1 (Ev.now _)
  refine Ev.if_neg c1 ?_
  by_cases c2 : (a1.size : Int) > 300
  · exact Ev.if_pos c2 (Ev.now _)
  refine Ev.if_neg c2 ?_
  have hz0 := size_data a0
  have hz1 := size_data a1
  have hs := Read_ev a0.data.toList (by omega)
  have ht := Read_ev a1.data.toList (by omega)
  rw [ba_self, resR_nil] at hs ht
  refine Ev.bind hs (Ev.bind ht ?_)
  cases hq : readL a0.data.toList with
  | none =>
    refine Ev.step (fun _ => decklelaw12_NumberParts_t.l0.eq_2 ..) (Ev.if_neg (by decide) (Ev.if_neg (by decide) (Ev.if_pos rfl (Ev.if_pos rfl (Ev.const fun k => ?_)))))
    show some ((ba []).toList == []) = some true
    simp [ba_toList]
  | some q =>
    obtain ⟨a, b⟩ := q
    have := parts_loop a0.data.toList a1.data.toList (by omega) (by omega) a b hq (a.map toS).length 0 (Nat.zero_add _).symm
    rw [ba_self, ba_self] at this
    exact this
end Go.Proofs.YtbbonbhammfpjaaDoor.Pure
