/- The law NumberTells over what the printed functions compute. -/
import Derived.Test.YtbbonbhammfpjaaDoorAll16
import Derived.Test.YtbbonbhammfpjaaDoorNuR
import Derived.Test.YtbbonbhammfpjaaDoorN12s
namespace Go.Proofs.YtbbonbhammfpjaaDoor.Pure
open Go.RowKit Go.Proofs.YtbbonbhammfpjaaDoorW.PrintWords Go.Proofs.YtbbonbhammfpjaaDoor.All Go.Proofs.YtbbonbhammfpjaaDoor.Dm Go.Proofs.YtbbonbhammfpjaaDoor.Ba Go.Proofs.YtbbonbhammfpjaaDoor.De Go.Proofs.YtbbonbhammfpjaaDoor.Nu Go.Proofs.YtbbonbhammfpjaaDoor.NuP Go.Proofs.YtbbonbhammfpjaaDoor.NuR Go.Lib

theorem tells_loop (x0 : List Int) (x1 : List S28) (a : List S28) (b : ByteArray) (c : Bool) (h0 : ∀ x ∈ x0, I x) (h1 : ∀ x ∈ x1, ID x) (l0 : x0.length ≤ 100) (l1 : x1.length ≤ 100) (hl : a.length ≤ 1000) :
    ∀ (d i : Nat), a.length = i + d → Ev (fun k => decklelaw12_NumberTells_t.l0 k x0 x1 true a b c a b c (i : Int)) true
  | 0, i, hd => by
    refine Ev.step (fun _ => decklelaw12_NumberTells_t.l0.eq_2 ..) (Ev.if_neg (by omega) (Ev.if_pos rfl (Ev.if_pos rfl (Ev.if_pos (by simp) ?_))))
    refine Ev.bind (Ints_ev x0 h0 (by omega)) (Ev.bind (rInts_ev x0 h0 (by omega)) (Ev.if_pos rfl ?_))
    exact Ev.bind (Decs_ev x1 h1 (by omega)) (Ev.bind (rDecs_ev x1 h1 (by omega)) (Ev.const fun k => by simp))
  | d + 1, i, hd => by
    have ih := tells_loop x0 x1 a b c h0 h1 l0 l1 hl d (i + 1) (by omega)
    refine Ev.step (fun _ => decklelaw12_NumberTells_t.l0.eq_2 ..) (Ev.if_pos (by omega) (Ev.if_pos (by omega) (Ev.if_pos (by omega) ?_)))
    refine Ev.if_neg (same_no _ _ _ _ rfl rfl) ?_
    rw [wrapI (by unfold I; omega)]
    exact ih
theorem NumberTells (l0 : List Int) (l1 : List S28) (a2 : ByteArray) (_w0 : l0.length ≤ 140737488351232) (h0 : ∀ x ∈ l0, I x) (_w1 : l1.length ≤ 140737488351232) (h1 : ∀ x ∈ l1, I x.f0 ∧ I x.f1) (_w2 : a2.size ≤ 140737488351232) :
    ∃ k, decklelaw12_NumberTells_t.f k l0 l1 a2 = some true := by
  refine Ev.rounds (g := fun k => decklelaw12_NumberTells_t.f k l0 l1 a2) ?_
  unfold decklelaw12_NumberTells_t.f
  refine Ev.bind small_ev ?_
  by_cases c1 : (l0.length : Int) > 100
  · exact Ev.if_pos c1 (Ev.now _)
  · refine Ev.if_neg c1 ?_
    by_cases c2 : (l1.length : Int) > 100
    · exact Ev.if_pos c2 (Ev.now _)
    · refine Ev.if_neg c2 ?_
      by_cases c3 : (a2.size : Int) > 500
      · exact Ev.if_pos c3 (Ev.now _)
      · refine Ev.if_neg c3 ?_
        have hz := size_data a2
        have hp := Read_ev a2.data.toList (by omega)
        have hr := rRead_ev a2.data.toList (by omega)
        have hlen := fstR_len _ a2.data.toList (Nat.le_refl _)
        rw [ba_self, resR_nil] at hp hr
        refine Ev.bind hp (Ev.bind hr (Ev.if_pos rfl ?_))
        exact tells_loop l0 l1 _ _ _ h0 h1 (by omega) (by omega) (by rw [List.length_map]; omega) _ 0 (Nat.zero_add _).symm
end Go.Proofs.YtbbonbhammfpjaaDoor.Pure
