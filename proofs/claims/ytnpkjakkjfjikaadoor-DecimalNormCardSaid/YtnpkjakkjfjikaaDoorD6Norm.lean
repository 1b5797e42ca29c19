/- The law DecimalNorm over what the printed functions compute. -/
import Derived.Test.YtnpkjakkjfjikaaDoorAll16
import Derived.Test.YtnpkjakkjfjikaaDoorD6s
namespace Go.Proofs.YtnpkjakkjfjikaaDoor.Pure
open Go.RowKit Go.Proofs.YtnpkjakkjfjikaaDoorW.PrintWords Go.Proofs.YtnpkjakkjfjikaaDoor.All Go.Proofs.YtnpkjakkjfjikaaDoor.Dm Go.Proofs.YtnpkjakkjfjikaaDoor.Ba Go.Proofs.YtnpkjakkjfjikaaDoor.De Go.Lib

theorem DecimalNorm (a0_0 a0_1 : Int) (h1 : I a0_0) (h2 : I a0_1) : ∃ k, decklelaw06_DecimalNorm_t.f k a0_0 a0_1 = some true := by
  refine Ev.rounds (g := fun k => decklelaw06_DecimalNorm_t.f k a0_0 a0_1) ?_
  have hN := norm_ev a0_0 a0_1 h1 h2
  have hI : I (normD a0_0 a0_1).1 ∧ I (normD a0_0 a0_1).2.1 := by
    unfold normD
    split
    · exact ⟨⟨by decide, by decide⟩, ⟨by decide, by decide⟩⟩
    · rename_i hm
      obtain ⟨b1, b2, b3, b4, b5, b6⟩ := strip_spec a0_0 a0_1 hm
      split
      · exact ⟨⟨by decide, by decide⟩, ⟨by decide, by decide⟩⟩
      · split
        · exact ⟨⟨by decide, by decide⟩, ⟨by decide, by decide⟩⟩
        · refine ⟨?_, ?_⟩
          · unfold I at h1 ⊢
            have hb : (strip a0_0 a0_1).1 ≠ 9223372036854775808 := by
              intro hk
              have hp := pow_ge ((strip a0_0 a0_1).2 - a0_1).toNat
              rw [hk] at b3
              generalize (10 : Int) ^ ((strip a0_0 a0_1).2 - a0_1).toNat = p at b3 hp
              omega
            simp only
            omega
          · unfold I at h2 ⊢
            simp only
            omega
  have hM := norm_ev _ _ hI.1 hI.2
  unfold decklelaw06_DecimalNorm_t.f
  refine Ev.bind small_ev (Ev.bind hN (Ev.bind hM ?_))
  cases hb : (normD a0_0 a0_1).2.2 with
  | false =>
    have := normD_false rfl hb
    rw [this]
    exact Ev.if_neg (by decide) (Ev.if_pos rfl (Ev.now _))
  | true =>
    have hx : normD a0_0 a0_1 = ((normD a0_0 a0_1).1, (normD a0_0 a0_1).2.1, true) := by rw [← hb]
    have hr := normD_right hx
    have h10 : ∀ (hc : ¬ (a0_1 > 32767)), normD (10 * a0_0) (a0_1 - 1) = normD a0_0 a0_1 := fun hc => normD_ten (by omega)
    generalize hm : (normD a0_0 a0_1).1 = m at *
    generalize he : (normD a0_0 a0_1).2.1 = e at *
    rw [normD_of_right hr]
    have hrm := right_ev' m e hI.1 hI.2
    rw [decide_eq_true hr] at hrm
    refine Ev.if_pos rfl (Ev.if_pos rfl (Ev.if_neg (by simp) (Ev.bind hrm (Ev.if_pos rfl ?_))))
    have tail : Ev (fun k => if a0_0 > 922337203685477580 then (some true) else (if a0_0 < (-922337203685477580) then (some true) else (if a0_1 ≤ (-32768) then (some true) else (if a0_1 > 32767 then (some true) else ((decimal_Norm.f k (wrap64 (10 * a0_0)) (wrap64 (a0_1 - 1))).bind fun bt309 => (if true = true then (if bt309.2.2 = true then (some (bt309.1 == m && (bt309.2.1 == e))) else (some false)) else (some false))))))) true := by
      by_cases c1 : a0_0 > 922337203685477580
      · exact Ev.if_pos c1 (Ev.now _)
      · refine Ev.if_neg c1 ?_
        by_cases c2 : a0_0 < -922337203685477580
        · exact Ev.if_pos c2 (Ev.now _)
        · refine Ev.if_neg c2 ?_
          by_cases c3 : a0_1 ≤ -32768
          · exact Ev.if_pos c3 (Ev.now _)
          · refine Ev.if_neg c3 ?_
            by_cases c4 : a0_1 > 32767
            · exact Ev.if_pos c4 (Ev.now _)
            · refine Ev.if_neg c4 ?_
              have i1 : I (10 * a0_0) := by unfold I; omega
              have i2 : I (a0_1 - 1) := by unfold I; omega
              rw [wrapI i1, wrapI i2]
              have h := norm_ev _ _ i1 i2
              rw [h10 c4, hx] at h
              exact Ev.bind h (Ev.if_pos rfl (Ev.if_pos rfl (Ev.const fun k => by simp)))
    by_cases c : Int.tmod m 10 = 0
    · refine Ev.if_pos c ?_
      have hm0 : m = 0 := by
        rcases hr with ⟨k, _⟩ | ⟨_, k, _⟩
        · exact k
        · exact absurd c k
      exact Ev.if_pos hm0 tail
    · exact Ev.if_neg c tail
end Go.Proofs.YtnpkjakkjfjikaaDoor.Pure
