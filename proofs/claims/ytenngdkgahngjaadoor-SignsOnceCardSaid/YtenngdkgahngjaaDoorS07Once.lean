/- The law SignsOnce over what the printed functions compute. -/
import Derived.Test.YtenngdkgahngjaaDoorAll7
import Derived.Test.YtenngdkgahngjaaDoorS07s
namespace Go.Proofs.YtenngdkgahngjaaDoor.Pure
open Go.RowKit Go.Proofs.YtenngdkgahngjaaDoorW.PrintWords Go.Proofs.YtenngdkgahngjaaDoor.All Go.Proofs.YtenngdkgahngjaaDoor.Ba Go.Proofs.YtenngdkgahngjaaDoor.Si Go.Lib

theorem SignsOnce (a0 : ByteArray) (_w0 : a0.size ≤ 140737488351232) : decklelaw07_SignsOnce_t.f a0 = some true := by
  unfold decklelaw07_SignsOnce_t.f
  rw [small_f, Option.bind_some]
  by_cases hs : (a0.size : Int) > 500
  · rw [if_pos hs]
  have hz := size_data a0
  rw [if_neg hs, un_f _ (by omega), Option.bind_some]
  rcases unE_or a0.data.toList with ⟨rs, h1, h2, h3⟩ | ⟨h1, h2⟩
  · have hl := encs_len rs
    rw [h3]
    simp only
    have hb : (ba (encs rs)).size ≤ 100000000 := by rw [ba_size]; rw [h2] at hz; omega
    rw [esc_f _ hb, right_f _ hb, ba_data, escE_encs rs h1, valid_of rs h1]
    simp only [Option.bind_some, if_true]
    rw [ba_toList, toList_eq, h2]
    simp
  · rw [h2]
    simp only
    rw [esc_f _ (by rw [ba_size]; simp)]
    simp only [Option.bind_some, if_true, Bool.false_eq_true, if_false]
    rw [ba_toList]
    rfl
end Go.Proofs.YtenngdkgahngjaaDoor.Pure
