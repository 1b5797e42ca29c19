/- The law DecimalBack over what the printed functions compute. -/
import Derived.Test.YtnpkjakkjfjikaaDoorAll16
import Derived.Test.YtnpkjakkjfjikaaDoorD6s
namespace Go.Proofs.YtnpkjakkjfjikaaDoor.Pure
open Go.RowKit Go.Proofs.YtnpkjakkjfjikaaDoorW.PrintWords Go.Proofs.YtnpkjakkjfjikaaDoor.All Go.Proofs.YtnpkjakkjfjikaaDoor.Dm Go.Proofs.YtnpkjakkjfjikaaDoor.Ba Go.Proofs.YtnpkjakkjfjikaaDoor.De Go.Lib

theorem DecimalBack (a0 a1_0 a1_1 : Int) (h0 : I a0) (h1 : I a1_0) (h2 : I a1_1) : ∃ k, decklelaw06_DecimalBack_t.f k a0 a1_0 a1_1 = some true := by
  refine Ev.rounds (g := fun k => decklelaw06_DecimalBack_t.f k a0 a1_0 a1_1) ?_
  obtain ⟨m, e, hN, hr, hn, e0, e1⟩ := of_val a0 h0.1 h0.2
  have im := mant_I h0 hn
  have ie := isRight_I hr
  have hof := of_ev a0 h0
  rw [hN] at hof
  have hw := whole_ev m e im ie
  rw [whole_of h0 hr hn e0 e1] at hw
  have l1 := textL_len im ie
  have hp := parse_ev (ba (textL m e)) (by rw [ba_size]; omega)
  rw [ba_data, parse_text hr im] at hp
  have l2 := textL_len h1 h2
  have hq := parse_ev (ba (textL a1_0 a1_1)) (by rw [ba_size]; omega)
  rw [ba_data] at hq
  have hrm := right_ev' m e im ie
  rw [decide_eq_true hr] at hrm
  unfold decklelaw06_DecimalBack_t.f
  refine Ev.bind small_ev (Ev.bind hof (Ev.bind hw (Ev.bind (text_ev m e im ie) (Ev.bind hp ?_))))
  refine Ev.if_pos rfl (Ev.if_pos rfl (Ev.if_pos rfl (Ev.if_neg (by simp) (Ev.bind hrm (Ev.if_pos rfl ?_)))))
  refine Ev.bind (text_ev _ _ h1 h2) (Ev.bind hq (Ev.bind (right_ev' _ _ h1 h2) (Ev.if_pos rfl ?_)))
  by_cases hd : isRight a1_0 a1_1
  · rw [decide_eq_true hd, parse_text hd h1]
    refine Ev.if_pos rfl (Ev.if_pos rfl (Ev.if_pos (by simp) (Ev.bind (text_ev _ _ h1 h2) (Ev.const fun k => ?_))))
    rw [ba_toList]
    have : textL a1_0 a1_1 ≠ [] := fun k => textL_nil.1 k hd
    simp [this]
  · have hnil := textL_nil.2 hd
    rw [decide_eq_false hd, hnil]
    refine Ev.if_pos rfl (Ev.if_neg (by decide) (Ev.bind (text_ev _ _ h1 h2) (Ev.const fun k => ?_)))
    rw [hnil, ba_toList]
    rfl
end Go.Proofs.YtnpkjakkjfjikaaDoor.Pure
