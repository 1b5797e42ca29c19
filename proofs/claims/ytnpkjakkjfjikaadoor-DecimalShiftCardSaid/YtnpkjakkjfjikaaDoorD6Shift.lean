/- The law DecimalShift over what the printed functions compute. -/
import Derived.Test.YtnpkjakkjfjikaaDoorAll18
import Derived.Test.YtnpkjakkjfjikaaDoorD6s
namespace Go.Proofs.YtnpkjakkjfjikaaDoor.Pure
open Go.RowKit Go.Proofs.YtnpkjakkjfjikaaDoorW.PrintWords Go.Proofs.YtnpkjakkjfjikaaDoor.All Go.Proofs.YtnpkjakkjfjikaaDoor.Dm Go.Proofs.YtnpkjakkjfjikaaDoor.Ba Go.Proofs.YtnpkjakkjfjikaaDoor.De Go.Lib

theorem compareInt_scale {x y : Int} {c d : Nat} (e : Nat) (hc : (x * 10 ^ (c + e)) = x * 10 ^ c * 10 ^ e) (hd : (y * 10 ^ (d + e)) = y * 10 ^ d * 10 ^ e) : compareInt (x * 10 ^ (c + e)) (y * 10 ^ (d + e)) = compareInt (x * 10 ^ c) (y * 10 ^ d) := by
  rw [hc, hd, compareInt_mul (Int.pow_pos (by decide))]
/-- Moved by as many places, two numbers stand as they do. -/
theorem cmp_shift {am ae bm be k : Int} (h1 : -32768 ≤ ae) (h2 : -32768 ≤ be) (h3 : -32768 ≤ ae + k) (h4 : -32768 ≤ be + k) : compareInt (val am (ae + k)) (val bm (be + k)) = compareInt (val am ae) (val bm be) := by
  have up : ∀ (x y p q : Int) (j : Nat), -32768 ≤ p → -32768 ≤ q → compareInt (val x (p + j)) (val y (q + j)) = compareInt (val x p) (val y q) := by
    intro x y p q j hp hq
    unfold val
    rw [show scale (p + j) = scale p + j by unfold scale; omega, show scale (q + j) = scale q + j by unfold scale; omega]
    exact compareInt_scale j (by rw [Int.pow_add, Int.mul_assoc]) (by rw [Int.pow_add, Int.mul_assoc])
  rcases Int.le_total 0 k with h | h
  · obtain ⟨j, rfl⟩ := Int.eq_ofNat_of_zero_le h
    exact up am bm ae be j h1 h2
  · obtain ⟨j, hj⟩ := Int.eq_ofNat_of_zero_le (show 0 ≤ -k by omega)
    have := up am bm (ae + k) (be + k) j h3 h4
    rw [show ae + k + (j : Int) = ae by omega, show be + k + (j : Int) = be by omega] at this
    exact this.symm
theorem DecimalShift (a0_0 a0_1 a1_0 a1_1 a2 : Int) (h1 : I a0_0) (h2 : I a0_1) (h3 : I a1_0) (h4 : I a1_1) (_h5 : I a2) : ∃ k, decklelaw06_DecimalShift_t.f k a0_0 a0_1 a1_0 a1_1 a2 = some true := by
  refine Ev.rounds (g := fun k => decklelaw06_DecimalShift_t.f k a0_0 a0_1 a1_0 a1_1 a2) ?_
  unfold decklelaw06_DecimalShift_t.f
  refine Ev.bind small_ev ?_
  by_cases c1 : a2 < -20000
  · exact Ev.if_pos c1 (Ev.now _)
  refine Ev.if_neg c1 ?_
  by_cases c2 : a2 > 20000
  · exact Ev.if_pos c2 (Ev.now _)
  refine Ev.if_neg c2 (Ev.bind (right_ev' _ _ h1 h2) ?_)
  by_cases ra : isRight a0_0 a0_1
  · rw [decide_eq_true ra]
    refine Ev.if_pos rfl (Ev.bind (right_ev' _ _ h3 h4) ?_)
    by_cases rb : isRight a1_0 a1_1
    · rw [decide_eq_true rb]
      refine Ev.if_pos rfl ?_
      by_cases c3 : a0_0 = 0
      · exact Ev.if_pos c3 (Ev.now _)
      refine Ev.if_neg c3 ?_
      by_cases c4 : a1_0 = 0
      · exact Ev.if_pos c4 (Ev.now _)
      refine Ev.if_neg c4 ?_
      obtain ⟨_, m1, m2⟩ := mag ra c3
      obtain ⟨_, m3, m4⟩ := mag rb c4
      have i1 : I (a0_1 + a2) := by unfold I; omega
      have i2 : I (a1_1 + a2) := by unfold I; omega
      rw [wrapI i1, wrapI i2]
      refine Ev.bind (right_ev' _ _ h1 i1) ?_
      by_cases rc : isRight a0_0 (a0_1 + a2)
      · rw [decide_eq_true rc]
        refine Ev.if_pos rfl (Ev.bind (right_ev' _ _ h3 i2) ?_)
        by_cases rd_ : isRight a1_0 (a1_1 + a2)
        · rw [decide_eq_true rd_]
          refine Ev.if_pos rfl (Ev.if_pos rfl (Ev.bind (compare_ev _ _ _ _ h1 i1 h3 i2) (Ev.bind (compare_ev _ _ _ _ h1 h2 h3 h4) (Ev.const fun k => ?_))))
          obtain ⟨_, m5, m6⟩ := mag rc c3
          obtain ⟨_, m7, m8⟩ := mag rd_ c4
          rw [cmpD_right rc rd_, cmpD_right ra rb, cmp_shift m1 m3 m5 m7]
          simp
        · rw [decide_eq_false rd_]
          exact Ev.if_neg (by decide) (Ev.now _)
      · rw [decide_eq_false rc]
        exact Ev.if_neg (by decide) (Ev.now _)
    · rw [decide_eq_false rb]
      exact Ev.if_neg (by decide) (Ev.now _)
  · rw [decide_eq_false ra]
    exact Ev.if_neg (by decide) (Ev.now _)
end Go.Proofs.YtnpkjakkjfjikaaDoor.Pure
