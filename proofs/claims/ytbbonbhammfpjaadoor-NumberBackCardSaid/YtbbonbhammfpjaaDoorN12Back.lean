/- The law NumberBack over what the printed functions compute. -/
import Derived.Test.YtbbonbhammfpjaaDoorAll17
import Derived.Test.YtbbonbhammfpjaaDoorN12s
namespace Go.Proofs.YtbbonbhammfpjaaDoor.Pure
open Go.RowKit Go.Proofs.YtbbonbhammfpjaaDoorW.PrintWords Go.Proofs.YtbbonbhammfpjaaDoor.All Go.Proofs.YtbbonbhammfpjaaDoor.Dm Go.Proofs.YtbbonbhammfpjaaDoor.Ba Go.Proofs.YtbbonbhammfpjaaDoor.De Go.Proofs.YtbbonbhammfpjaaDoor.Nu Go.Proofs.YtbbonbhammfpjaaDoor.NuP Go.Lib

def ofP (n : Int) : Int × Int := ((normD n 0).1, (normD n 0).2.1)
def toP (x : S28) : Int × Int := (x.f0, x.f1)
def moreOk (m : List UInt8) : Prop := pieces m = 0 ∧ goesOn m = false
theorem ints_read (l : List Int) (h : ∀ x ∈ l, I x) (hne : l ≠ []) (m : List UInt8) (hm : moreOk m) : readL (intsL l ++ m) = some (l.map ofP, m) := by
  have := readL_join m hm.1 hm.2 (l.map fun n => (numL n, ofP n)) (by simpa using hne) (by
    intro p hp
    obtain ⟨n, hn, rfl⟩ := List.mem_map.1 hp
    exact good_num n (h n hn))
  rw [List.map_map, List.map_map] at this
  exact this
theorem decs_read (l : List S28) (hr : ∀ x ∈ l, rightS x) (hi : ∀ x ∈ l, ID x) (hne : l ≠ []) (m : List UInt8) (hm : moreOk m) : readL (decsL l ++ m) = some (l.map toP, m) := by
  have := readL_join m hm.1 hm.2 (l.map fun x => (textS x, toP x)) (by simpa using hne) (by
    intro p hp
    obtain ⟨x, hx, rfl⟩ := List.mem_map.1 hp
    exact good_text x.f0 x.f1 (hr x hx) (hi x hx).1)
  rw [List.map_map, List.map_map] at this
  unfold decsL
  rw [if_pos hr]
  exact this
theorem toS_toP (l : List S28) : (l.map toP).map toS = l := by
  rw [List.map_map]
  conv => rhs; rw [← List.map_id l]
  exact List.map_congr_left fun x _ => rfl
theorem intsL_len (l : List Int) (h : ∀ x ∈ l, I x) : (intsL l).length ≤ 22 * l.length := by
  have := join_len 21 (l.map numL) (fun t ht => by
    obtain ⟨y, hy, rfl⟩ := List.mem_map.1 ht
    exact numL_len (h y hy))
  rwa [List.length_map] at this
theorem decsL_len (l : List S28) (h : ∀ x ∈ l, ID x) : (decsL l).length ≤ 44 * l.length := by
  have := join_len 43 (l.map textS) (fun t ht => by
    obtain ⟨y, hy, rfl⟩ := List.mem_map.1 ht
    exact textL_len (h y hy).1 (h y hy).2)
  rw [List.length_map] at this
  unfold decsL
  split
  · exact this
  · exact Nat.zero_le _
theorem back_l2 (x1 : List S28) (l1 : x1.length ≤ 100) : ∀ (d i : Nat), x1.length = i + d → Ev (fun k => decklelaw12_NumberBack_t.l2 k x1 true x1 (i : Int)) true
  | 0, i, hd => Ev.step (fun _ => decklelaw12_NumberBack_t.l2.eq_2 ..) (Ev.if_neg (by omega) (Ev.now _))
  | d + 1, i, hd => by
    have ih := back_l2 x1 l1 d (i + 1) (by omega)
    refine Ev.step (fun _ => decklelaw12_NumberBack_t.l2.eq_2 ..) (Ev.if_pos (by omega) (Ev.if_pos (by omega) (Ev.if_pos (by omega) (Ev.if_neg (same_no _ _ _ _ rfl rfl) ?_))))
    rw [wrapI (by unfold I; omega)]
    exact ih
theorem back_l1 (x1 : List S28) (x2 : ByteArray) (h1 : ∀ x ∈ x1, ID x) (l1 : x1.length ≤ 100) (hne : x1 ≠ []) (l2 : x2.data.toList.length ≤ 200) (hm : moreOk x2.data.toList) :
    ∀ (d i : Nat), x1.length = i + d → (∀ (j : Nat) (h : j < x1.length), j < i → rightS x1[j]) → Ev (fun k => decklelaw12_NumberBack_t.l1 k x1 x2 true (i : Int)) true
  | 0, i, hd, hr => by
    have hall : ∀ x ∈ x1, rightS x := by
      intro x hx
      obtain ⟨j, hj, rfl⟩ := List.getElem_of_mem hx
      exact hr j hj (by omega)
    have hdl := decsL_len x1 h1
    have hz := size_data x2
    refine Ev.step (fun _ => decklelaw12_NumberBack_t.l1.eq_2 ..) (Ev.if_neg (by omega) (Ev.bind (Decs_ev x1 h1 (by omega)) (Ev.if_pos (by rw [ba_size]; omega) ?_)))
    have hrd := Read_ev (decsL x1 ++ x2.data.toList) (by rw [List.length_append]; omega)
    rw [decs_read x1 hall h1 hne _ hm, ← ba_append, ba_self] at hrd
    refine Ev.bind hrd (Ev.if_pos rfl (Ev.if_pos (by rw [show (resR (some (x1.map toP, x2.data.toList)) []).2.1 = ba x2.data.toList from rfl, ba_self]) ?_))
    have e : (resR (some (x1.map toP, x2.data.toList)) []).1 = x1 := by
      show [] ++ (x1.map toP).map toS = x1
      rw [toS_toP, List.nil_append]
    rw [e]
    refine Ev.step (fun _ => decklelaw12_NumberBack_t.j5.eq_2 ..) (Ev.if_neg (by simp) ?_)
    exact back_l2 x1 l1 x1.length 0 (Nat.zero_add _).symm
  | d + 1, i, hd, hr => by
    have hi : i < x1.length := by omega
    have hID := h1 x1[i] (List.getElem_mem hi)
    refine Ev.step (fun _ => decklelaw12_NumberBack_t.l1.eq_2 ..) (Ev.if_pos (by omega) (Ev.if_pos (by omega) ?_))
    rw [rdT_at x1 i hi]
    refine Ev.bind (right_ev' _ _ hID.1 hID.2) ?_
    by_cases hR : isRight x1[i].f0 x1[i].f1
    · refine Ev.if_pos (by simpa using hR) ?_
      have ih := back_l1 x1 x2 h1 l1 hne l2 hm d (i + 1) (by omega) (fun j hj hlt => by
        by_cases k : j < i
        · exact hr j hj k
        · obtain rfl : j = i := by omega
          exact hR)
      rw [wrapI (by unfold I; omega)]
      exact ih
    · refine Ev.if_neg (by simpa using hR) (Ev.if_pos rfl (Ev.bind (Decs_ev x1 h1 (by omega)) (Ev.const fun k => ?_)))
      have e : decsL x1 = [] := by
        unfold decsL
        rw [if_neg (fun k => hR (k _ (List.getElem_mem hi)))]
      rw [e]
      simp [ba_toList]
theorem back_l0 (x0 : List Int) (x1 : List S28) (x2 : ByteArray) (h0 : ∀ x ∈ x0, I x) (h1 : ∀ x ∈ x1, ID x) (l0 : x0.length ≤ 100) (l1 : x1.length ≤ 100) (hne : x1 ≠ []) (l2 : x2.data.toList.length ≤ 200) (hm : moreOk x2.data.toList) :
    ∀ (d i : Nat), x0.length = i + d → Ev (fun k => decklelaw12_NumberBack_t.l0 k x0 x1 x2 true (x0.map fun n => toS (ofP n)) (i : Int)) true
  | 0, i, hd => by
    refine Ev.step (fun _ => decklelaw12_NumberBack_t.l0.eq_2 ..) (Ev.if_neg (by omega) ?_)
    exact back_l1 x1 x2 h1 l1 hne l2 hm x1.length 0 (Nat.zero_add _).symm (fun j _ k => absurd k (Nat.not_lt_zero j))
  | d + 1, i, hd => by
    have hi : i < x0.length := by omega
    have ih := back_l0 x0 x1 x2 h0 h1 l0 l1 hne l2 hm d (i + 1) (by omega)
    refine Ev.step (fun _ => decklelaw12_NumberBack_t.l0.eq_2 ..) (Ev.if_pos (by omega) (Ev.if_pos (by omega) (Ev.if_pos (by rw [List.length_map]; omega) ?_)))
    rw [rd_at x0 i hi, rdT_at _ i (by rw [List.length_map]; exact hi), List.getElem_map]
    refine Ev.bind (of_ev _ (h0 _ (List.getElem_mem hi))) (Ev.if_neg (same_no _ _ _ _ rfl rfl) ?_)
    rw [wrapI (by unfold I; omega)]
    exact ih
theorem back_j1t (x0 : List Int) (x1 : List S28) (x2 : ByteArray) : Ev (fun k => decklelaw12_NumberBack_t.j1 k x0 x1 x2 true true) true :=
  Ev.step (fun _ => decklelaw12_NumberBack_t.j1.eq_2 ..) (Ev.if_pos (by first | rfl | trivial) (Ev.now _))
theorem back_j1 (x0 : List Int) (x1 : List S28) (x2 : ByteArray) (h0 : ∀ x ∈ x0, I x) (h1 : ∀ x ∈ x1, ID x) (l0 : x0.length ≤ 100) (l1 : x1.length ≤ 100) (hne0 : x0 ≠ []) (hne : x1 ≠ []) (l2 : x2.data.toList.length ≤ 200) (hm : moreOk x2.data.toList) :
    Ev (fun k => decklelaw12_NumberBack_t.j1 k x0 x1 x2 true false) true := by
  have hz := size_data x2
  have hil := intsL_len x0 h0
  refine Ev.step (fun _ => decklelaw12_NumberBack_t.j1.eq_2 ..) (Ev.if_neg (by decide) (Ev.bind (Ints_ev x0 h0 (by omega)) (Ev.if_pos (by rw [ba_size]; omega) ?_)))
  have hrd := Read_ev (intsL x0 ++ x2.data.toList) (by rw [List.length_append]; omega)
  rw [ints_read x0 h0 hne0 _ hm, ← ba_append, ba_self] at hrd
  refine Ev.bind hrd (Ev.if_pos rfl (Ev.if_pos (by rw [show (resR (some (x0.map ofP, x2.data.toList)) []).2.1 = ba x2.data.toList from rfl, ba_self]) ?_))
  have e : (resR (some (x0.map ofP, x2.data.toList)) []).1 = x0.map fun n => toS (ofP n) := by
    show [] ++ (x0.map ofP).map toS = _
    rw [List.map_map, List.nil_append]
    rfl
  rw [e]
  refine Ev.step (fun _ => decklelaw12_NumberBack_t.j2.eq_2 ..) (Ev.if_neg (by simp) ?_)
  exact back_l0 x0 x1 x2 h0 h1 l0 l1 hne l2 hm x0.length 0 (Nat.zero_add _).symm
theorem back_j0t (x0 : List Int) (x1 : List S28) (x2 : ByteArray) : Ev (fun k => decklelaw12_NumberBack_t.j0 k x0 x1 x2 true true) true :=
  Ev.step (fun _ => decklelaw12_NumberBack_t.j0.eq_2 ..) (Ev.if_pos (by first | rfl | trivial) (Ev.now _))
theorem NumberBack (l0 : List Int) (l1 : List S28) (a2 : ByteArray) (_w0 : l0.length ≤ 140737488351232) (h0 : ∀ x ∈ l0, I x) (_w1 : l1.length ≤ 140737488351232) (h1 : ∀ x ∈ l1, I x.f0 ∧ I x.f1) (_w2 : a2.size ≤ 140737488351232) :
    ∃ k, decklelaw12_NumberBack_t.f k l0 l1 a2 = some true := by
  refine Ev.rounds (g := fun k => decklelaw12_NumberBack_t.f k l0 l1 a2) ?_
  unfold decklelaw12_NumberBack_t.f
  refine Ev.bind small_ev ?_
  by_cases c1 : (l0.length : Int) < 1
  · exact Ev.if_pos c1 (back_j0t _ _ _)
  refine Ev.if_neg c1 ?_
  by_cases c2 : (l0.length : Int) > 100
  · exact Ev.if_pos c2 (back_j0t _ _ _)
  refine Ev.if_neg c2 ?_
  by_cases c3 : (l1.length : Int) < 1
  · exact Ev.if_pos c3 (back_j0t _ _ _)
  refine Ev.if_neg c3 ?_
  by_cases c4 : (l1.length : Int) > 100
  · exact Ev.if_pos c4 (back_j0t _ _ _)
  refine Ev.if_neg c4 ?_
  by_cases c5 : (a2.size : Int) > 200
  · rw [decide_eq_true c5]
    exact back_j0t _ _ _
  rw [decide_eq_false c5]
  have hz := size_data a2
  have hn0 : l0 ≠ [] := fun k => by subst k; exact c1 (by decide)
  have hn1 : l1 ≠ [] := fun k => by subst k; exact c3 (by decide)
  have J := fun hm => back_j1 l0 l1 a2 h0 h1 (by omega) (by omega) hn0 hn1 (by omega) hm
  refine Ev.step (fun _ => decklelaw12_NumberBack_t.j0.eq_2 ..) (Ev.if_neg (by decide) ?_)
  rw [toList_eq]
  cases hd : a2.data.toList with
  | nil => exact Ev.if_pos rfl (J (by rw [hd]; exact ⟨rfl, rfl⟩))
  | cons c l =>
    have hb : bt a2 0 = (c.toNat : Int) := by
      rw [show a2 = ba (c :: l) by rw [← hd, ba_self]]
      exact ba_bt (c :: l) 0 (by simp)
    refine Ev.if_neg (by simp) (Ev.if_pos (by rw [hz, hd]; simp) ?_)
    rw [hb]
    by_cases k1 : (c.toNat : Int) = 32
    · exact Ev.if_pos k1 (back_j1t _ _ _)
    refine Ev.if_neg k1 ?_
    by_cases k2 : (c.toNat : Int) = 69
    · exact Ev.if_pos k2 (back_j1t _ _ _)
    refine Ev.if_neg k2 ?_
    have fin : ¬ (48 ≤ c.toNat ∧ c.toNat ≤ 57) → Ev (fun k => decklelaw12_NumberBack_t.j1 k l0 l1 a2 true ((c.toNat : Int) == 194)) true := by
      intro k3
      by_cases k4 : (c.toNat : Int) = 194
      · rw [beq_iff_eq.2 k4]
        exact back_j1t _ _ _
      · rw [beq_eq_false_iff_ne.2 k4]
        refine J ?_
        rw [hd]
        have hE : digE c = false := by
          cases hq : digE c with
          | false => rfl
          | true =>
            unfold digE at hq
            simp only [Bool.or_eq_true, Bool.and_eq_true, decide_eq_true_eq, beq_iff_eq] at hq
            rcases hq with hq | hq
            · exact absurd hq k3
            · subst hq; exact absurd rfl k2
        refine ⟨pieces_stop hE (fun k => k4 (by rw [k.1]; rfl)), ?_⟩
        cases hq : goesOn (c :: l) with
        | false => rfl
        | true =>
          obtain ⟨l', hl', _⟩ := goesOn_cons hq
          simp only [List.cons.injEq] at hl'
          rw [hl'.1] at k1
          exact absurd rfl k1
    by_cases k3 : (c.toNat : Int) ≥ 48
    · refine Ev.if_pos k3 ?_
      by_cases k4 : (c.toNat : Int) ≤ 57
      · exact Ev.if_pos k4 (back_j1t _ _ _)
      · exact Ev.if_neg k4 (fin (by omega))
    · exact Ev.if_neg k3 (fin (by omega))
end Go.Proofs.YtbbonbhammfpjaaDoor.Pure
