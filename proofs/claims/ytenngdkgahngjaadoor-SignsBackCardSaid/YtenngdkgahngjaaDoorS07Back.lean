/- The law SignsBack over what the printed functions compute. -/
import Derived.Test.YtenngdkgahngjaaDoorAll7
import Derived.Test.YtenngdkgahngjaaDoorS07s
namespace Go.Proofs.YtenngdkgahngjaaDoor.Pure
open Go.RowKit Go.Proofs.YtenngdkgahngjaaDoorW.PrintWords Go.Proofs.YtenngdkgahngjaaDoor.All Go.Proofs.YtenngdkgahngjaaDoor.Ba Go.Proofs.YtenngdkgahngjaaDoor.Si Go.Lib

theorem back_loop (rs : List Nat) (h : ∀ c ∈ rs, Rn c) (hl : (encs rs).length ≤ 500) : ∀ (d i : Nat), i + d = (escs rs).length →
    Ev (fun k => decklelaw07_SignsBack_t.l0 k (ba (encs rs)) true (ba (escs rs)) (i : Int)) true
  | 0, i, hd => by
    have h1 := escs_len rs h
    refine Ev.step (f := fun _ => some _) (fun k => ?_) (Ev.now _)
    simp only [decklelaw07_SignsBack_t.l0]
    rw [if_neg (by rw [ba_size]; omega), un_f _ (by rw [ba_size]; omega), ba_data, unE_escs rs h, right_f _ (by rw [ba_size]; omega), ba_data, valid_of rs h]
    simp only [Option.bind_some, if_true, ba_size]
    rw [wrapI (by unfold I; omega)]
    exact congrArg some (decide_eq_true (by omega))
  | d + 1, i, hd => by
    have ih := back_loop rs h hl d (i + 1) (by omega)
    have h1 := escs_len rs h
    have hi : i < (escs rs).length := by omega
    have hb := escs_bytes rs _ (List.getElem_mem hi)
    refine Ev.step (fun k => ?_) ih
    simp only [decklelaw07_SignsBack_t.l0]
    rw [if_pos (by rw [ba_size]; omega), if_pos (by omega), ba_bt _ i hi, if_neg (by omega), if_neg (by omega), wrapI (by unfold I; omega)]
    rfl
theorem SignsBack (a0 : ByteArray) (_w0 : a0.size ≤ 140737488351232) : ∃ k, decklelaw07_SignsBack_t.f k a0 = some true := by
  refine Ev.rounds (g := fun k => decklelaw07_SignsBack_t.f k a0) ?_
  unfold decklelaw07_SignsBack_t.f
  refine Ev.bind0 small_f ?_
  by_cases hs : (a0.size : Int) > 500
  · exact Ev.if_pos hs (Ev.now _)
  have hz := size_data a0
  refine Ev.if_neg hs (Ev.bind0 (esc_f _ (by omega)) ?_)
  rcases escE_or a0.data.toList with ⟨rs, h1, h2, h3⟩ | ⟨h1, h2⟩
  · rw [h3]
    refine Ev.if_pos rfl ?_
    have e : a0 = ba (encs rs) := by rw [← h2, ba_self]
    have := back_loop rs h1 (by rw [← h2]; omega) _ 0 (Nat.zero_add _)
    rw [e]
    exact this
  · rw [h2]
    refine Ev.if_neg (by simp) (Ev.if_pos rfl (Ev.if_pos (ba_toList _) ?_))
    refine Ev.bind0 (right_f _ (by omega)) ?_
    rw [h1]
    exact Ev.now _
end Go.Proofs.YtenngdkgahngjaaDoor.Pure
