/- The law SignsParts over what the printed functions compute. -/
import Derived.Test.YtenngdkgahngjaaDoorAll8
import Derived.Test.YtenngdkgahngjaaDoorS07s
namespace Go.Proofs.YtenngdkgahngjaaDoor.Pure
open Go.RowKit Go.Proofs.YtenngdkgahngjaaDoorW.PrintWords Go.Proofs.YtenngdkgahngjaaDoor.All Go.Proofs.YtenngdkgahngjaaDoor.Ba Go.Proofs.YtenngdkgahngjaaDoor.Si Go.Lib

theorem SignsParts (a0 a1 : ByteArray) (_w0 : a0.size ≤ 140737488351232) (_w1 : a1.size ≤ 140737488351232) : decklelaw07_SignsParts_t.f a0 a1 = some true := by
  unfold decklelaw07_SignsParts_t.f
  rw [small_f, Option.bind_some]
  by_cases hs : (a0.size : Int) > 300
  · rw [if_pos hs]
  by_cases ht : (a1.size : Int) > 300
  · rw [if_neg hs, if_pos ht]
  have hz := size_data a0
  have hy := size_data a1
  have ha : (a0 ++ a1).size = a0.size + a1.size := ByteArray.size_append
  have hd : (a0 ++ a1).data.toList = a0.data.toList ++ a1.data.toList := by simp
  rw [if_neg hs, if_neg ht, esc_f _ (by omega), Option.bind_some, esc_f _ (by omega), Option.bind_some, if_pos (by omega), esc_f _ (by omega), Option.bind_some]
  rcases escE_or a0.data.toList with ⟨rs, h1, h2, h3⟩ | ⟨h1, h2⟩
  · rw [h3]
    simp only [if_true]
    rcases escE_or a1.data.toList with ⟨qs, g1, g2, g3⟩ | ⟨g1, g2⟩
    · rw [g3]
      simp only [if_true]
      have hr : ∀ c ∈ rs ++ qs, Rn c := fun c hc => (List.mem_append.1 hc).elim (h1 c) (g1 c)
      have l1 := escs_len rs h1
      have l2 := escs_len qs g1
      rw [h2] at hz
      rw [g2] at hy
      have e1 : (a0 ++ a1).data.toList = encs (rs ++ qs) := by rw [hd, h2, g2, Si.encs_append]
      have hb : (ba (escs rs) ++ ba (escs qs)).size ≤ 10000000 := by rw [ba_append, ba_size, List.length_append]; omega
      have e2 : (ba (escs rs) ++ ba (escs qs)).data.toList = escs (rs ++ qs) := by rw [ba_append, ba_data, escs_append]
      rw [ba_size, ba_size, if_pos (by omega), un_f _ hb, Option.bind_some, e1, e2, escE_encs _ hr, unE_escs _ hr]
      simp only [if_true]
      rw [if_pos (by rw [ba_toList, toList_eq, e2]), ba_toList, toList_eq, e1]
      simp
    · rw [g2]
      have : validD (a0 ++ a1).data.toList = false := by rw [hd, h2, valid_encs rs h1, g1]
      have : escE (a0 ++ a1).data.toList = ([], false) := by unfold escE; rw [this]; rfl
      rw [this]
      rfl
  · rw [h2]
    rfl
end Go.Proofs.YtenngdkgahngjaaDoor.Pure
