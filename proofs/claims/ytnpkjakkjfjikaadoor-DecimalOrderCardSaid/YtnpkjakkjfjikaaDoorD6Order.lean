/- The law DecimalOrder over what the printed functions compute. -/
import Derived.Test.YtnpkjakkjfjikaaDoorAll17
import Derived.Test.YtnpkjakkjfjikaaDoorD6s
namespace Go.Proofs.YtnpkjakkjfjikaaDoor.Pure
open Go.RowKit Go.Proofs.YtnpkjakkjfjikaaDoorW.PrintWords Go.Proofs.YtnpkjakkjfjikaaDoor.All Go.Proofs.YtnpkjakkjfjikaaDoor.Dm Go.Proofs.YtnpkjakkjfjikaaDoor.Ba Go.Proofs.YtnpkjakkjfjikaaDoor.De Go.Lib

theorem order_tail (x11 : Bool) (x12 am ae bm be : Int) (h1 : I am) (h2 : I ae) (h3 : I bm) (h4 : I be) (hx : x11 = true) (hc : x12 = cmpD am ae bm be) (ha : isRight am ae) (hb : isRight bm be) (n1 : am > -9223372036854775808) :
    Ev (fun k => decklelaw06_DecimalOrder_t.j3 k x11 x12 (decide (bm > (-9223372036854775808))) am ae bm be) true := by
  subst hx
  refine Ev.step (f := fun k => _) (fun k => by simp only [decklelaw06_DecimalOrder_t.j3]; rfl) ?_
  by_cases n2 : bm > -9223372036854775808
  · have i1 : I (-am) := by unfold I at h1 ⊢; omega
    have i2 : I (-bm) := by unfold I at h3 ⊢; omega
    rw [decide_eq_true n2]
    refine Ev.if_pos rfl (Ev.if_pos (by first | rfl | trivial) (Ev.if_pos ?_ ?_))
    · rw [hc, cmpD_right ha hb, beq_iff_eq]
      by_cases he : am = bm ∧ ae = be
      · obtain ⟨rfl, rfl⟩ := he
        rw [cmpI_eq rfl]
        simp
      · have hv : ¬ compareInt (val am ae) (val bm be) = 0 := fun k => he (right_unique ha hb (compareInt_zero.1 k))
        rw [beq_eq_false_iff_ne.2 hv]
        symm
        simpa using he
    · rw [wrapI i1, wrapI i2]
      refine Ev.bind (compare_ev _ _ _ _ i1 h2 i2 h4) (Ev.step (f := fun _ => some true) (fun k => ?_) (Ev.now _))
      simp only [decklelaw06_DecimalOrder_t.j4]
      have hr := cmpD_range am ae bm be
      rw [hc, wrapI (by unfold I; omega), cmpD_right ha hb, cmpD_right (isRight_neg ha) (isRight_neg hb)]
      congr 1
      rw [beq_iff_eq]
      unfold val
      rw [Int.neg_mul, Int.neg_mul, compareInt_neg]
  · rw [decide_eq_false n2]
    exact Ev.if_neg (by decide) (Ev.now _)
theorem order_j2 (m n w : Int) (x12 am ae bm be : Int) (hm : I m) (hn : I n) (hw : w = compareInt m n) (h1 : I am) (h2 : I ae) (h3 : I bm) (h4 : I be) (hc : x12 = cmpD am ae bm be) :
    Ev (fun k => decklelaw06_DecimalOrder_t.j2 k m n true x12 w am ae bm be) true := by
  obtain ⟨a, b, hN, hr, ha, b0, b1⟩ := of_val m hm.1 hm.2
  obtain ⟨c, d, hN', hr', ha', d0, d1⟩ := of_val n hn.1 hn.2
  have o1 := of_ev m hm
  have o2 := of_ev n hn
  rw [hN] at o1
  rw [hN'] at o2
  have hcmp := compare_ev a b c d (mant_I hm ha) (isRight_I hr) (mant_I hn ha') (isRight_I hr')
  rw [cmpD_of hr hr' ha ha' b0 d0, ← hw] at hcmp
  have j3f : Ev (fun k => decklelaw06_DecimalOrder_t.j3 k true x12 false am ae bm be) true := Ev.step (f := fun _ => some true) (fun k => by simp only [decklelaw06_DecimalOrder_t.j3]; rw [if_neg (by decide)]) (Ev.now _)
  refine Ev.step (f := fun k => _) (fun k => by simp only [decklelaw06_DecimalOrder_t.j2]; rfl) ?_
  refine Ev.bind o1 (Ev.bind o2 (Ev.bind hcmp (Ev.if_pos rfl (Ev.bind (right_ev' _ _ h1 h2) ?_))))
  by_cases ra : isRight am ae
  · rw [decide_eq_true ra]
    refine Ev.if_pos rfl (Ev.bind (right_ev' _ _ h3 h4) ?_)
    by_cases rb : isRight bm be
    · rw [decide_eq_true rb]
      refine Ev.if_pos rfl ?_
      by_cases n1 : am > -9223372036854775808
      · exact Ev.if_pos n1 (order_tail true x12 am ae bm be h1 h2 h3 h4 rfl hc ra rb n1)
      · exact Ev.if_neg n1 j3f
    · rw [decide_eq_false rb]
      exact Ev.if_neg (by decide) j3f
  · rw [decide_eq_false ra]
    exact Ev.if_neg (by decide) j3f
theorem order_j0 (m n : Int) (x12 am ae bm be : Int) (hm : I m) (hn : I n) (h1 : I am) (h2 : I ae) (h3 : I bm) (h4 : I be) (hc : x12 = cmpD am ae bm be) :
    Ev (fun k => decklelaw06_DecimalOrder_t.j0 k m n true x12 false am ae bm be) true := by
  refine Ev.step (f := fun k => _) (fun k => by simp only [decklelaw06_DecimalOrder_t.j0]; rfl) (Ev.if_neg (by decide) ?_)
  rcases Int.lt_trichotomy m n with h | h | h
  · refine Ev.if_pos h (Ev.step (f := fun k => _) (fun k => by simp only [decklelaw06_DecimalOrder_t.j1]; rfl) (Ev.if_neg (by omega) ?_))
    exact order_j2 m n (-1) x12 am ae bm be hm hn (cmpI_lt h).symm h1 h2 h3 h4 hc
  · refine Ev.if_neg (by omega) (Ev.step (f := fun k => _) (fun k => by simp only [decklelaw06_DecimalOrder_t.j1]; rfl) (Ev.if_neg (by omega) ?_))
    exact order_j2 m n 0 x12 am ae bm be hm hn (cmpI_eq h).symm h1 h2 h3 h4 hc
  · refine Ev.if_neg (by omega) (Ev.step (f := fun k => _) (fun k => by simp only [decklelaw06_DecimalOrder_t.j1]; rfl) (Ev.if_pos h ?_))
    exact order_j2 m n 1 x12 am ae bm be hm hn (cmpI_gt h).symm h1 h2 h3 h4 hc
theorem cmp_trans {x y z : Int} : (compareInt x y = compareInt y z → compareInt x z = compareInt x y) ∧ (compareInt x y = 0 → compareInt x z = compareInt y z) ∧ (compareInt y z = 0 → compareInt x z = compareInt x y) := by
  rcases Int.lt_trichotomy x y with a | a | a <;> rcases Int.lt_trichotomy y z with b | b | b
  · rw [cmpI_lt a, cmpI_lt b, cmpI_lt (by omega)]; simp
  · rw [cmpI_lt a, cmpI_eq b, cmpI_lt (by omega)]; simp
  · rw [cmpI_lt a, cmpI_gt b]; simp
  · rw [cmpI_eq a, cmpI_lt b, cmpI_lt (by omega)]; simp
  · rw [cmpI_eq a, cmpI_eq b, cmpI_eq (by omega)]; simp
  · rw [cmpI_eq a, cmpI_gt b, cmpI_gt (by omega)]; simp
  · rw [cmpI_gt a, cmpI_lt b]; simp
  · rw [cmpI_gt a, cmpI_eq b, cmpI_gt (by omega)]; simp
  · rw [cmpI_gt a, cmpI_gt b, cmpI_gt (by omega)]; simp
theorem DecimalOrder (a0_0 a0_1 a1_0 a1_1 a2_0 a2_1 a3 a4 : Int) (h1 : I a0_0) (h2 : I a0_1) (h3 : I a1_0) (h4 : I a1_1) (h5 : I a2_0) (h6 : I a2_1) (h7 : I a3) (h8 : I a4) :
    ∃ k, decklelaw06_DecimalOrder_t.f k a0_0 a0_1 a1_0 a1_1 a2_0 a2_1 a3 a4 = some true := by
  refine Ev.rounds (g := fun k => decklelaw06_DecimalOrder_t.f k a0_0 a0_1 a1_0 a1_1 a2_0 a2_1 a3 a4) ?_
  unfold decklelaw06_DecimalOrder_t.f
  refine Ev.bind small_ev (Ev.bind (compare_ev _ _ _ _ h1 h2 h3 h4) (Ev.bind (compare_ev _ _ _ _ h3 h4 h5 h6) (Ev.bind (compare_ev _ _ _ _ h1 h2 h5 h6) (Ev.bind (compare_ev _ _ _ _ h3 h4 h1 h2) ?_))))
  have hsw : cmpD a1_0 a1_1 a0_0 a0_1 = -cmpD a0_0 a0_1 a1_0 a1_1 := compareInt_swap _ _
  obtain ⟨t1, t2, t3⟩ := @cmp_trans (val (clean a0_0 a0_1).1 (clean a0_0 a0_1).2) (val (clean a1_0 a1_1).1 (clean a1_0 a1_1).2) (val (clean a2_0 a2_1).1 (clean a2_0 a2_1).2)
  rw [← cmpD_val, ← cmpD_val, ← cmpD_val] at t1 t2 t3
  have r1 := cmpD_range a0_0 a0_1 a1_0 a1_1
  have r2 := cmpD_range a1_0 a1_1 a0_0 a0_1
  have J := order_j0 a3 a4 (cmpD a0_0 a0_1 a1_0 a1_1) a0_0 a0_1 a1_0 a1_1 h7 h8 h1 h2 h3 h4 rfl
  have hneg : (wrap64 (-cmpD a1_0 a1_1 a0_0 a0_1)) = cmpD a0_0 a0_1 a1_0 a1_1 := by rw [wrapI (by unfold I; omega), hsw]; omega
  rw [hneg]
  generalize cmpD a0_0 a0_1 a1_0 a1_1 = x at *
  generalize cmpD a1_0 a1_1 a2_0 a2_1 = y at *
  generalize cmpD a0_0 a0_1 a2_0 a2_1 = z at *
  refine Ev.if_pos rfl (Ev.if_neg (by omega) (Ev.if_neg (by omega) ?_))
  by_cases c1 : x = y
  · have e1 := t1 c1
    refine Ev.if_pos c1 (Ev.if_pos e1 ?_)
    have hf : (z != x) = false := by simp [e1]
    rw [hf]
    by_cases c2 : x = 0
    · refine Ev.if_pos c2 (Ev.if_pos (t2 c2) ?_)
      by_cases c3 : y = 0
      · exact Ev.if_pos c3 J
      · exact Ev.if_neg c3 J
    · refine Ev.if_neg c2 ?_
      by_cases c3 : y = 0
      · exact Ev.if_pos c3 J
      · exact Ev.if_neg c3 J
  · refine Ev.if_neg c1 ?_
    have hf : y = 0 → (z != x) = false := fun c => by simp [t3 c]
    by_cases c2 : x = 0
    · refine Ev.if_pos c2 (Ev.if_pos (t2 c2) ?_)
      by_cases c3 : y = 0
      · rw [hf c3]; exact Ev.if_pos c3 J
      · exact Ev.if_neg c3 J
    · refine Ev.if_neg c2 ?_
      by_cases c3 : y = 0
      · rw [hf c3]; exact Ev.if_pos c3 J
      · exact Ev.if_neg c3 J
end Go.Proofs.YtnpkjakkjfjikaaDoor.Pure
