/- The law NumberJoin over what the printed functions compute. -/
import Derived.Test.YtbbonbhammfpjaaDoorAll20
import Derived.Test.YtbbonbhammfpjaaDoorN12s
namespace Go.Proofs.YtbbonbhammfpjaaDoor.Pure
open Go.RowKit Go.Proofs.YtbbonbhammfpjaaDoorW.PrintWords Go.Proofs.YtbbonbhammfpjaaDoor.All Go.Proofs.YtbbonbhammfpjaaDoor.Dm Go.Proofs.YtbbonbhammfpjaaDoor.Ba Go.Proofs.YtbbonbhammfpjaaDoor.De Go.Proofs.YtbbonbhammfpjaaDoor.Nu Go.Proofs.YtbbonbhammfpjaaDoor.NuP Go.Lib

theorem join_two : ∀ (a b : List (List UInt8)), a ≠ [] → b ≠ [] → join (a ++ b) [32] = join a [32] ++ 32 :: join b [32]
  | [t], u :: b, _, _ => by rw [List.cons_append, List.nil_append, join_cons2, Nu.join_one]
  | t :: u :: a, b, _, hb => by
    have ih := join_two (u :: a) b (by simp) hb
    rw [List.cons_append] at ih
    rw [List.cons_append, List.cons_append, join_cons2, ih, join_cons2, List.append_assoc]
    rfl
  | _, [], _, hb => absurd rfl hb
theorem join_ne (ts : List (List UInt8)) (h : ∀ t ∈ ts, t ≠ []) (hne : ts ≠ []) : join ts [32] ≠ [] := by
  match ts with
  | [] => exact absurd rfl hne
  | [t] => rw [Nu.join_one]; exact h t (List.mem_singleton_self t)
  | t :: u :: ts => rw [join_cons2]; simp
theorem decsL_nil (l : List S28) (hne : l ≠ []) : decsL l = [] ↔ ¬ ∀ x ∈ l, rightS x := by
  unfold decsL
  split
  · rename_i h
    constructor
    · intro k
      exfalso
      refine join_ne _ (fun t ht => ?_) (by simpa using hne) k
      obtain ⟨x, hx, rfl⟩ := List.mem_map.1 ht
      exact fun k => textL_nil.1 k (h x hx)
    · intro k; exact absurd h k
  · rename_i h
    simp [h]
theorem decsL_append (a b : List S28) (ha : a ≠ []) (hb : b ≠ []) (h1 : decsL a ≠ []) (h2 : decsL b ≠ []) : decsL (a ++ b) = decsL a ++ 32 :: decsL b := by
  have r1 : ∀ x ∈ a, rightS x := Decidable.by_contra fun k => h1 ((decsL_nil a ha).2 k)
  have r2 : ∀ x ∈ b, rightS x := Decidable.by_contra fun k => h2 ((decsL_nil b hb).2 k)
  unfold decsL
  rw [if_pos r1, if_pos r2, if_pos (fun x hx => (List.mem_append.1 hx).elim (r1 x) (r2 x)), List.map_append, join_two _ _ (by simpa using ha) (by simpa using hb)]
theorem decsL_len (l : List S28) (h : ∀ x ∈ l, ID x) : (decsL l).length ≤ 44 * l.length := by
  have := join_len 43 (l.map textS) (fun t ht => by
    obtain ⟨y, hy, rfl⟩ := List.mem_map.1 ht
    exact textL_len (h y hy).1 (h y hy).2)
  rw [List.length_map] at this
  unfold decsL
  split
  · exact this
  · exact Nat.zero_le _
theorem intsL_len (l : List Int) (h : ∀ x ∈ l, I x) : (intsL l).length ≤ 22 * l.length := by
  have := join_len 21 (l.map numL) (fun t ht => by
    obtain ⟨y, hy, rfl⟩ := List.mem_map.1 ht
    exact numL_len (h y hy))
  rwa [List.length_map] at this
theorem NumberJoin (l0 l1 : List Int) (l2 l3 : List S28) (_w0 : l0.length ≤ 140737488351232) (h0 : ∀ x ∈ l0, I x) (_w1 : l1.length ≤ 140737488351232) (h1 : ∀ x ∈ l1, I x) (_w2 : l2.length ≤ 140737488351232) (h2 : ∀ x ∈ l2, I x.f0 ∧ I x.f1) (_w3 : l3.length ≤ 140737488351232) (h3 : ∀ x ∈ l3, I x.f0 ∧ I x.f1) :
    ∃ k, decklelaw12_NumberJoin_t.f k l0 l1 l2 l3 = some true := by
  refine Ev.rounds (g := fun k => decklelaw12_NumberJoin_t.f k l0 l1 l2 l3) ?_
  unfold decklelaw12_NumberJoin_t.f
  refine Ev.bind small_ev ?_
  by_cases c1 : (l0.length : Int) < 1
  · exact Ev.if_pos c1 (Ev.now _)
  refine Ev.if_neg c1 ?_
  by_cases c2 : (l1.length : Int) < 1
  · exact Ev.if_pos c2 (Ev.now _)
  refine Ev.if_neg c2 ?_
  by_cases c3 : (l2.length : Int) < 1
  · exact Ev.if_pos c3 (Ev.now _)
  refine Ev.if_neg c3 ?_
  by_cases c4 : (l3.length : Int) < 1
  · exact Ev.if_pos c4 (Ev.now _)
  refine Ev.if_neg c4 ?_
  by_cases c5 : (l0.length : Int) > 50
  · exact Ev.if_pos c5 (Ev.now _)
  refine Ev.if_neg c5 ?_
  by_cases c6 : (l1.length : Int) > 50
  · exact Ev.if_pos c6 (Ev.now _)
  refine Ev.if_neg c6 ?_
  by_cases c7 : (l2.length : Int) > 50
  · exact Ev.if_pos c7 (Ev.now _)
  refine Ev.if_neg c7 ?_
  by_cases c8 : (l3.length : Int) > 50
  · exact Ev.if_pos c8 (Ev.now _)
  refine Ev.if_neg c8 ?_
  have n0 : l0 ≠ [] := fun k => by subst k; exact c1 (by decide)
  have n1 : l1 ≠ [] := fun k => by subst k; exact c2 (by decide)
  have n2 : l2 ≠ [] := fun k => by subst k; exact c3 (by decide)
  have n3 : l3 ≠ [] := fun k => by subst k; exact c4 (by decide)
  have h23 : ∀ x ∈ l2 ++ l3, ID x := fun x hx => (List.mem_append.1 hx).elim (h2 x) (h3 x)
  have h01 : ∀ x ∈ l0 ++ l1, I x := fun x hx => (List.mem_append.1 hx).elim (h0 x) (h1 x)
  have d23 := Decs_ev (l2 ++ l3) h23 (by rw [List.length_append]; omega)
  have i01 := Ints_ev (l0 ++ l1) h01 (by rw [List.length_append]; omega)
  have z2 := decsL_len l2 h2
  have z3 := decsL_len l3 h3
  have y0 := intsL_len l0 h0
  have y1 := intsL_len l1 h1
  refine Ev.bind (Decs_ev l2 h2 (by omega)) (Ev.bind (Decs_ev l3 h3 (by omega)) (Ev.bind0 rfl (Ev.if_pos (by simp; omega) (Ev.bind0 rfl ?_))))
  rw [List.nil_append]
  refine Ev.if_pos (by omega) (Ev.bind d23 ?_)
  rw [ba_toList, ba_toList, ba_toList]
  have hbad : (decsL l2 = [] ∨ decsL l3 = []) → decsL (l2 ++ l3) = [] := by
    intro k
    refine (decsL_nil _ (by simp [n2])).2 fun q => ?_
    rcases k with k | k
    · exact (decsL_nil l2 n2).1 k fun x hx => q x (List.mem_append_left _ hx)
    · exact (decsL_nil l3 n3).1 k fun x hx => q x (List.mem_append_right _ hx)
  by_cases e2 : decsL l2 = []
  · exact Ev.if_pos e2 (Ev.if_pos rfl (Ev.const fun k => by rw [hbad (.inl e2)]; rfl))
  refine Ev.if_neg e2 ?_
  by_cases e3 : decsL l3 = []
  · exact Ev.if_pos e3 (Ev.if_pos rfl (Ev.const fun k => by rw [hbad (.inr e3)]; rfl))
  refine Ev.if_neg e3 (Ev.if_pos rfl (Ev.if_pos (by rw [ba_size]; omega) ?_))
  rw [show ba (decsL l2) ++ (⟨#[32]⟩ : ByteArray) = ba (decsL l2 ++ [32]) from ba_append _ [32]]
  refine Ev.if_pos (by rw [ba_size, ba_size, List.length_append]; simp; omega) (Ev.if_pos (by rw [ba_append, ba_toList, decsL_append l2 l3 n2 n3 e2 e3, List.append_assoc]; rfl) (Ev.bind0 rfl (Ev.if_pos (by simp; omega) (Ev.bind0 rfl ?_))))
  rw [List.nil_append]
  refine Ev.if_pos (by omega) (Ev.bind i01 (Ev.bind (Ints_ev l0 h0 (by omega)) (Ev.if_pos (by rw [ba_size]; omega) (Ev.bind (Ints_ev l1 h1 (by omega)) ?_))))
  rw [show ba (intsL l0) ++ (⟨#[32]⟩ : ByteArray) = ba (intsL l0 ++ [32]) from ba_append _ [32]]
  refine Ev.if_pos (by rw [ba_size, ba_size, List.length_append]; simp; omega) (Ev.const fun k => ?_)
  rw [ba_append, ba_toList, ba_toList]
  unfold intsL
  rw [List.map_append, join_two _ _ (by simpa using n0) (by simpa using n1), List.append_assoc]
  show some (_ == _) = some true
  simp
end Go.Proofs.YtbbonbhammfpjaaDoor.Pure
