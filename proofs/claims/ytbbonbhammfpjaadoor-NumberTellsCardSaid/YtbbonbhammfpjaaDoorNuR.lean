/- What the document's functions on rows of numbers compute: the same. -/
import Derived.Test.YtbbonbhammfpjaaDoorAll15
import Derived.Test.YtbbonbhammfpjaaDoorAll15
import Derived.Test.YtbbonbhammfpjaaDoorAll16
import Derived.Test.YtbbonbhammfpjaaDoorNuP
import Derived.Test.YtbbonbhammfpjaaDoorDeRef
namespace Go.Proofs.YtbbonbhammfpjaaDoor.NuR
open Go.RowKit Go.Proofs.YtbbonbhammfpjaaDoorW.PrintWords Go.Proofs.YtbbonbhammfpjaaDoor.All Go.Proofs.YtbbonbhammfpjaaDoor.Dm Go.Proofs.YtbbonbhammfpjaaDoor.Ba Go.Proofs.YtbbonbhammfpjaaDoor.De Go.Proofs.YtbbonbhammfpjaaDoor.DeRef Go.Proofs.YtbbonbhammfpjaaDoor.Nu Go.Proofs.YtbbonbhammfpjaaDoor.NuP Go.Lib
set_option linter.unusedVariables false

theorem two_bytes (s : List UInt8) (i : Nat) (c : UInt8) (l : List UInt8) (hi : s.drop i = c :: l) : (((ba s).extract ((i : Nat) : Int).toNat ((((i + 2 : Nat) : Int)) : Int).toNat).toList = ([194, 175] : List UInt8)) ↔ (c = 194 ∧ l.head? = some 175) := by
  rw [Int.toNat_natCast, Int.toNat_natCast, ba_extract, ba_toList, hi, Nat.add_sub_cancel_left]
  cases l with
  | nil => simp
  | cons d l => simp
theorem pieces_loop (s : List UInt8) (hs : s.length ≤ 1000000) : ∀ (d i : Nat), s.length ≤ i + d → i ≤ s.length → Ev (fun k => deckleref12_pieces.l0 k (ba s) (i : Int)) ((i + pieces (s.drop i) : Nat) : Int)
  | d, i, hd, hi => by
    have hz := ba_size s
    by_cases hlt : i < s.length
    · have hdr := List.drop_eq_getElem_cons hlt
      generalize hc : s[i] = c at hdr
      have hb : bt (ba s) (i : Int) = (c.toNat : Int) := by rw [ba_bt s i hlt, hc]
      have hj : Ev (fun k => deckleref12_pieces.j1 k (ba s) (i : Int) (digE c)) ((i + pieces (s.drop i) : Nat) : Int) := by
        cases hE : digE c with
        | true =>
          obtain ⟨d, rfl⟩ : ∃ e, d = e + 1 := ⟨d - 1, by omega⟩
          have ih := pieces_loop s hs d (i + 1) (by omega) hlt
          rw [hdr, pieces_dig hE]
          rw [show i + 1 + pieces (s.drop (i + 1)) = i + (1 + pieces (s.drop (i + 1))) by omega] at ih
          refine Ev.step (fun _ => deckleref12_pieces.j1.eq_2 ..) (Ev.if_pos (by first | rfl | trivial) ?_)
          rw [wrapI (by unfold I; omega)]
          exact ih
        | false =>
          refine Ev.step (fun _ => deckleref12_pieces.j1.eq_2 ..) (Ev.if_neg (by decide) ?_)
          rw [hz, wrapI (n := (s.length : Int) - (i : Int)) (by unfold I; omega), wrapI (n := (i : Int) + 2) (by unfold I; omega)]
          by_cases h2 : (s.length : Int) - (i : Int) ≥ 2
          · refine Ev.if_pos h2 (Ev.if_pos (by omega) (Ev.if_pos (by omega) (Ev.if_pos (by omega) ?_)))
            have e2 : (i : Int) + 2 = ((i + 2 : Nat) : Int) := by omega
            rw [e2]
            by_cases hm : c = 194 ∧ (s.drop (i + 1)).head? = some 175
            · refine Ev.if_pos ((two_bytes s i c _ hdr).2 hm) ?_
              obtain ⟨rfl, hh⟩ := hm
              obtain ⟨l, hl⟩ : ∃ l, s.drop (i + 1) = 175 :: l := by
                cases hq : s.drop (i + 1) with
                | nil => rw [hq] at hh; cases hh
                | cons x l => rw [hq] at hh; exact ⟨l, by rw [show x = 175 by simpa using hh]⟩
              have hl2 : s.drop (i + 2) = l := by rw [show i + 2 = (i + 1) + 1 by omega, ← List.drop_drop, hl]; rfl
              obtain ⟨d, rfl⟩ : ∃ e, d = e + 1 := ⟨d - 1, by omega⟩
              have ih := pieces_loop s hs d (i + 2) (by omega) (by omega)
              rw [hl2] at ih
              rw [hdr, hl, pieces_minus]
              rw [show i + 2 + pieces l = i + (2 + pieces l) by omega] at ih
              exact ih
            · refine Ev.if_neg (fun k => hm ((two_bytes s i c _ hdr).1 k)) (Ev.const fun k => ?_)
              rw [hdr, pieces_stop hE hm, Nat.add_zero]
          · refine Ev.if_neg h2 (Ev.const fun k => ?_)
            have hm : ¬ (c = 194 ∧ (s.drop (i + 1)).head? = some 175) := by
              rintro ⟨_, h⟩
              rw [List.drop_eq_nil_of_le (by omega)] at h
              cases h
            rw [hdr, pieces_stop hE hm, Nat.add_zero]
      have h69 : ((c.toNat : Int) == 69) = (c == 69) := by
        rw [Bool.eq_iff_iff, beq_iff_eq, beq_iff_eq]
        exact ⟨fun k => UInt8.toNat.inj (by simpa using (by omega : c.toNat = 69)), fun k => by subst k; rfl⟩
      refine Ev.step (fun _ => deckleref12_pieces.l0.eq_2 ..) (Ev.if_pos (by omega) (Ev.if_pos (by omega) ?_))
      rw [hb]
      unfold digE at hj
      by_cases h1 : 48 ≤ c.toNat
      · refine Ev.if_pos (by omega) ?_
        by_cases h2 : c.toNat ≤ 57
        · rw [decide_eq_true h1, decide_eq_true h2] at hj
          exact Ev.if_pos (by omega) hj
        · rw [decide_eq_true h1, decide_eq_false h2, ← h69] at hj
          exact Ev.if_neg (by omega) hj
      · rw [decide_eq_false h1, ← h69] at hj
        exact Ev.if_neg (by omega) hj
    · have he : s.drop i = [] := List.drop_eq_nil_of_le (by omega)
      rw [he, show pieces [] = 0 from rfl, Nat.add_zero]
      exact Ev.step (fun _ => deckleref12_pieces.l0.eq_2 ..) (Ev.if_neg (by omega) (Ev.now _))
theorem rpieces_ev (s : List UInt8) (hs : s.length ≤ 1000000) : Ev (fun k => deckleref12_pieces.f k (ba s)) ((pieces s : Nat) : Int) := by
  have := pieces_loop s hs s.length 0 (by omega) (by omega)
  rw [List.drop_zero, Nat.zero_add] at this
  exact this

/-! ### One number -/
def oneC' (s t : List UInt8) (n : Nat) : Prop := (parseD t).2.2 = true ∧ (parseD t).2.1 = 0 ∧ n ≤ 18 ∧ (whole (parseD t).1 (n : Int)).2 = true ∧ numL (whole (parseD t).1 (n : Int)).1 = s
instance (s t : List UInt8) (n : Nat) : Decidable (oneC' s t n) := by unfold oneC'; infer_instance
theorem one_end (s t : List UInt8) (n : Nat) (hn : n ≤ 1000000) : Ev (fun k => deckleref12_one.j1 k (ba s) (ba t) (n : Int)) (if oneC' s t n then ((parseD t).1, (n : Int), true) else (0, 0, false)) := by
  have hf : ∀ (b c : Int), Ev (fun k => deckleref12_one.j2 k (ba s) (n : Int) true b c) (0, 0, false) := fun b c => Ev.step (fun _ => deckleref12_one.j2.eq_2 ..) (Ev.if_pos (by first | rfl | trivial) (Ev.now _))
  have hp := rparse_ev t
  rw [rparse_eq] at hp
  refine Ev.step (fun _ => deckleref12_one.j1.eq_2 ..) (Ev.bind hp ?_)
  have hI : (parseD t).2.2 = true → I (parseD t).1 := by
    intro h
    rcases hq : parseD t with ⟨m, e, b⟩
    rw [hq] at h
    obtain rfl : b = true := h
    exact (parse_true hq).2.2.1
  by_cases h1 : (parseD t).2.2 = true
  · have im := hI h1
    refine Ev.if_pos h1 ?_
    by_cases h2 : (parseD t).2.1 = 0
    · refine Ev.if_pos h2 ?_
      by_cases h3 : n ≤ 18
      · rw [decide_eq_false (by omega)]
        refine Ev.step (fun _ => deckleref12_one.j2.eq_2 ..) (Ev.if_neg (by decide) (Ev.bind (rwhole_ev (parseD t).1 (n : Int) im (by unfold I; omega)) ?_))
        by_cases h4 : (whole (parseD t).1 (n : Int)).2 = true
        · refine Ev.if_pos h4 (Ev.bind (rnumber_ev _ (whole_I h4)) ?_)
          rw [ba_toList, ba_toList]
          by_cases h5 : numL (whole (parseD t).1 (n : Int)).1 = s
          · rw [if_pos (show oneC' s t n from ⟨h1, h2, h3, h4, h5⟩)]
            exact Ev.if_pos h5 (Ev.now _)
          · rw [if_neg (show ¬ oneC' s t n from fun k => h5 k.2.2.2.2)]
            exact Ev.if_neg h5 (Ev.now _)
        · rw [if_neg (show ¬ oneC' s t n from fun k => h4 k.2.2.2.1)]
          exact Ev.if_neg h4 (Ev.now _)
      · rw [decide_eq_true (by omega), if_neg (show ¬ oneC' s t n from fun k => h3 k.2.2.1)]
        exact hf _ _
    · rw [if_neg (show ¬ oneC' s t n from fun k => h2 k.2.1)]
      exact Ev.if_neg h2 (hf _ _)
  · rw [if_neg (show ¬ oneC' s t n from fun k => h1 k.1)]
    exact Ev.if_neg h1 (hf _ _)
theorem one_loop (s : List UInt8) : ∀ (r : List UInt8) (n : Nat), n + r.length ≤ 1000000 → Ev (fun k => deckleref12_one.l0 k (ba s) (ba r.reverse) (n : Int)) (if oneC' s (stripR r n).1.reverse (stripR r n).2 then ((parseD (stripR r n).1.reverse).1, ((stripR r n).2 : Int), true) else (0, 0, false))
  | [], n, h => by
    refine Ev.step (fun _ => deckleref12_one.l0.eq_2 ..) (Ev.if_neg (by decide) ?_)
    exact one_end s [] n (by simpa using h)
  | [c], n, h => by
    refine Ev.step (fun _ => deckleref12_one.l0.eq_2 ..) (Ev.if_neg (by rw [ba_size]; simp) ?_)
    exact one_end s [c] n (by simp at h; omega)
  | c :: d :: l, n, h => by
    simp only [List.length_cons] at h
    have hz : (ba (c :: d :: l).reverse).size = l.length + 2 := by rw [ba_size]; simp
    have hw : wrap64 (((ba (c :: d :: l).reverse).size : Int) - 1) = ((l.length + 1 : Nat) : Int) := by rw [hz, wrapI (by unfold I; omega)]; omega
    have hlt : l.length + 1 < (c :: d :: l).reverse.length := by simp
    have hb : bt (ba (c :: d :: l).reverse) ((l.length + 1 : Nat) : Int) = (c.toNat : Int) := by
      rw [ba_bt _ _ hlt]
      congr 2
      rw [List.getElem_reverse]
      simp
    have hx : (ba (c :: d :: l).reverse).extract 0 ((l.length + 1 : Nat) : Int).toNat = ba (d :: l).reverse := by
      rw [Int.toNat_natCast, ba_extract, List.drop_zero, Nat.sub_zero, List.reverse_cons, List.take_append_of_le_length (by simp), List.take_of_length_le (by simp)]
    refine Ev.step (fun _ => deckleref12_one.l0.eq_2 ..) (Ev.if_pos (by omega) ?_)
    rw [hw]
    refine Ev.if_pos (by omega) (Ev.if_pos (by omega) ?_)
    rw [hb]
    by_cases h48 : c = 48
    · have ih := one_loop s (d :: l) (n + 1) (by simp only [List.length_cons]; omega)
      rw [stripR, if_pos h48]
      refine Ev.if_pos (by rw [h48]; rfl) (Ev.if_pos (by omega) ?_)
      rw [hx, wrapI (by unfold I; omega)]
      exact ih
    · rw [stripR, if_neg h48]
      refine Ev.if_neg (fun k => h48 (UInt8.toNat.inj (by simpa using (by omega : c.toNat = 48)))) ?_
      exact one_end s _ n (by omega)
theorem one_ev (s : List UInt8) (hs : s.length ≤ 1000000) : Ev (fun k => deckleref12_one.f k (ba s)) (oneR s) := by
  have hp := rparse_ev s
  rw [rparse_eq] at hp
  unfold deckleref12_one.f oneR
  refine Ev.bind hp ?_
  by_cases h : (parseD s).2.2 = true
  · rw [if_pos h]
    exact Ev.if_pos h (Ev.now _)
  · rw [if_neg h]
    refine Ev.if_neg h ?_
    have := one_loop s s.reverse 0 (by simpa using hs)
    rw [List.reverse_reverse] at this
    exact this

/-! ### Rows -/
theorem goesOn_short {b : List UInt8} (h : b.length < 2) : goesOn b = false := by
  cases hq : goesOn b with
  | false => rfl
  | true =>
    obtain ⟨l, rfl, hp⟩ := goesOn_cons hq
    cases l with
    | nil => exact absurd rfl hp
    | cons c l => simp at h; omega
theorem rread_loop : ∀ (n : Nat) (s : List UInt8), s.length ≤ n → ∀ out : List S28, out.length + s.length ≤ 1000000 → Ev (fun k => deckleref12_Read.l0 k (ba s) out) (resR (readL s) out) := by
  intro n
  induction n with
  | zero =>
    intro s hs out ho
    obtain rfl : s = [] := List.eq_nil_of_length_eq_zero (by omega)
    rw [readL_none (by exact readN_nil)]
    refine Ev.step (fun _ => deckleref12_Read.l0.eq_2 ..) (Ev.bind (rpieces_ev [] (by simp)) (Ev.if_pos (by decide) (Ev.if_pos (by decide) (Ev.bind (one_ev [] (by simp)) ?_))))
    exact Ev.if_neg (by rw [oneR_false readN_nil]; decide) (Ev.now _)
  | succ n ih =>
    intro s hs out ho
    have hz := ba_size s
    have hle := pieces_le s
    have hx0 : (ba s).extract 0 ((pieces s : Nat) : Int).toNat = ba (s.take (pieces s)) := by rw [Int.toNat_natCast, ba_extract, List.drop_zero, Nat.sub_zero]
    have hx1 : (ba s).extract ((pieces s : Nat) : Int).toNat (ba s).size = ba (s.drop (pieces s)) := by
      rw [Int.toNat_natCast, ba_extract, hz, List.take_of_length_le (by rw [List.length_drop]; exact Nat.le_refl _)]
    refine Ev.step (fun _ => deckleref12_Read.l0.eq_2 ..) (Ev.bind (rpieces_ev s (by omega)) (Ev.if_pos (by omega) (Ev.if_pos (by omega) ?_)))
    rw [hx0, hx1, Int.toNat_natCast, hz]
    refine Ev.bind (one_ev (s.take (pieces s)) (by rw [List.length_take]; omega)) ?_
    rcases readN_or (s.take (pieces s)) with h1 | ⟨m, e, h1⟩
    · rw [readL_none h1, oneR_false h1]
      exact Ev.if_neg (by decide) (Ev.now _)
    · rw [oneR_of h1]
      refine Ev.if_pos rfl (Ev.if_pos (by omega) (Ev.bind0 rfl ?_))
      generalize hb : s.drop (pieces s) = b
      have hbl : s.length - pieces s = b.length := by rw [← hb, List.length_drop]
      rw [hbl]
      have stop : goesOn b = false → Ev (fun _ => some (out ++ [(⟨m, e⟩ : S28)], ba b, true)) (resR (readL s) out) := by
        intro hg
        rw [readL_stop h1 (by rw [hb]; exact hg), hb]
        exact Ev.now _
      by_cases h2 : ((b.length : Nat) : Int) < 2
      · exact Ev.if_pos h2 (stop (goesOn_short (by omega)))
      · refine Ev.if_neg h2 (Ev.if_pos (by omega) ?_)
        cases b with
        | nil => simp at h2
        | cons c l =>
          rw [bt0]
          by_cases hc : c = 32
          · subst hc
            simp only [List.length_cons] at h2 hbl
            have hx : (ba (32 :: l)).extract 1 (32 :: l : List UInt8).length = ba l := by
              rw [ba_extract]
              congr 1
              simp
            refine Ev.if_pos rfl (Ev.if_pos (by simp only [List.length_cons]; omega) ?_)
            rw [hx]
            refine Ev.bind (rpieces_ev l (by omega)) ?_
            by_cases hp : pieces l = 0
            · refine Ev.if_pos (by omega) (stop ?_)
              unfold goesOn
              simp [hp]
            · refine Ev.if_neg (by omega) ?_
              have hg : goesOn (s.drop (pieces s)) = true := by rw [hb]; exact goesOn_of hp
              have ih' := ih l (by omega) (out ++ [toS (m, e)]) (by rw [List.length_append, List.length_singleton]; omega)
              rw [readL_go h1 hg, hb, List.drop_one, List.tail_cons]
              cases hq : readL l with
              | none =>
                rw [hq] at ih'
                exact ih'
              | some q =>
                rw [hq] at ih'
                have e2 : resR (some q) (out ++ [toS (m, e)]) = resR (Option.map (fun q => ((m, e) :: q.1, q.2)) (some q)) out := by
                  show (out ++ [toS (m, e)] ++ q.1.map toS, ba q.2, true) = (out ++ (((m, e) :: q.1).map toS), ba q.2, true)
                  rw [List.append_assoc]
                  rfl
                rw [← e2]
                exact ih'
          · refine Ev.if_neg (fun k => hc (UInt8.toNat.inj (by simpa using (by omega : c.toNat = 32)))) (stop ?_)
            unfold goesOn
            simp [hc]
theorem rRead_ev (s : List UInt8) (hs : s.length ≤ 1000000) : Ev (fun k => deckleref12_Read.f k (ba s)) (resR (readL s) []) := rread_loop s.length s (Nat.le_refl _) [] (by simpa using hs)
theorem rints_loop (l : List Int) (h : ∀ x ∈ l, I x) (hl : l.length ≤ 1000) : ∀ (q p : List Int), l = p ++ q → Ev (fun k => deckleref12_Ints.l0 k l (ba (intsL p)) (p.length : Int)) (ba (intsL l))
  | [], p, hp => by
    rw [List.append_nil] at hp
    subst hp
    exact Ev.step (fun _ => deckleref12_Ints.l0.eq_2 ..) (Ev.if_neg (by omega) (Ev.now _))
  | x :: q, p, hp => by
    have hlen : l.length = p.length + q.length + 1 := by rw [hp]; simp; omega
    have hx : I x := h x (by rw [hp]; simp)
    have ih := rints_loop l h hl q (p ++ [x]) (by rw [hp]; simp)
    rw [List.length_append, List.length_singleton] at ih
    have hr : rd l (p.length : Int) = x := by rw [hp]; exact rd_mid p q x
    have hlx := numL_len hx
    have hip : (intsL p).length ≤ 22 * p.length := by
      have := join_len 21 (p.map numL) (fun t ht => by
        obtain ⟨y, hy, rfl⟩ := List.mem_map.1 ht
        exact numL_len (h y (by rw [hp]; simp [hy])))
      rwa [List.length_map] at this
    have hsn : intsL (p ++ [x]) = if p.map numL = [] then numL x else intsL p ++ 32 :: numL x := by
      unfold intsL
      rw [List.map_append, List.map_cons, List.map_nil, join_snoc]
    refine Ev.step (fun _ => deckleref12_Ints.l0.eq_2 ..) (Ev.if_pos (by omega) ?_)
    rw [hr, wrapI (by unfold I; omega)]
    by_cases h0 : (p.length : Int) > 0
    · rw [if_neg (by intro k; rw [List.map_eq_nil_iff] at k; subst k; simp at h0)] at hsn
      refine Ev.if_pos h0 (Ev.if_pos (by rw [ba_size]; omega) (Ev.if_pos (by omega) (Ev.bind (rnumber_ev x hx) ?_)))
      rw [show ba (intsL p) ++ (⟨#[32]⟩ : ByteArray) = ba (intsL p ++ [32]) from ba_append _ [32]]
      refine Ev.if_pos (by rw [ba_size, ba_size, List.length_append]; simp; omega) ?_
      rw [ba_append, List.append_assoc]
      rw [hsn] at ih
      exact ih
    · have hp0 : p = [] := List.eq_nil_of_length_eq_zero (by omega)
      subst hp0
      refine Ev.if_neg h0 (Ev.if_pos (by simp) (Ev.bind (rnumber_ev x hx) ?_))
      have e : intsL [] = [] := rfl
      rw [e]
      refine Ev.if_pos (by rw [ba_size, ba_size]; simp; omega) ?_
      rw [ba_append, List.nil_append]
      rw [show intsL ([] ++ [x]) = numL x from hsn.trans (if_pos (by simp))] at ih
      exact ih
theorem rInts_ev (l : List Int) (h : ∀ x ∈ l, I x) (hl : l.length ≤ 1000) : Ev (fun k => deckleref12_Ints.f k l) (ba (intsL l)) := rints_loop l h hl l [] rfl
theorem rdecs_loop (l : List S28) (h : ∀ x ∈ l, ID x) (hl : l.length ≤ 1000) : ∀ (q p : List S28), l = p ++ q → (∀ x ∈ p, rightS x) → Ev (fun k => deckleref12_Decs.l0 k l (ba (join (p.map textS) [32])) (p.length : Int)) (ba (decsL l))
  | [], p, hp, hpr => by
    rw [List.append_nil] at hp
    subst hp
    unfold decsL
    rw [if_pos hpr]
    exact Ev.step (fun _ => deckleref12_Decs.l0.eq_2 ..) (Ev.if_neg (by omega) (Ev.now _))
  | x :: q, p, hp, hpr => by
    have hlen : l.length = p.length + q.length + 1 := by rw [hp]; simp; omega
    have hxm : x ∈ l := by rw [hp]; simp
    have hx := h x hxm
    have hr : rd_T28 l (p.length : Int) = x := by rw [hp]; exact rdT_mid p q x
    have hlx := textL_len hx.1 hx.2
    have hip : (join (p.map textS) [32]).length ≤ 44 * p.length := by
      have := join_len 43 (p.map textS) (fun t ht => by
        obtain ⟨y, hy, rfl⟩ := List.mem_map.1 ht
        have := h y (by rw [hp]; simp [hy])
        exact textL_len this.1 this.2)
      rwa [List.length_map] at this
    have hsn : join ((p ++ [x]).map textS) [32] = if p.map textS = [] then textS x else join (p.map textS) [32] ++ 32 :: textS x := by
      rw [List.map_append, List.map_cons, List.map_nil, join_snoc]
    refine Ev.step (fun _ => deckleref12_Decs.l0.eq_2 ..) (Ev.if_pos (by omega) (Ev.if_pos (by omega) ?_))
    rw [hr, wrapI (by unfold I; omega)]
    refine Ev.bind (rtext_ev _ _ hx.1 hx.2) ?_
    rw [ba_toList]
    by_cases hR : isRight x.f0 x.f1
    · have ih := rdecs_loop l h hl q (p ++ [x]) (by rw [hp]; simp) (fun y hy => by
        rcases List.mem_append.1 hy with hy | hy
        · exact hpr y hy
        · rw [List.mem_singleton.1 hy]; exact hR)
      rw [List.length_append, List.length_singleton] at ih
      refine Ev.if_neg (fun k => textL_nil.1 k hR) ?_
      by_cases h0 : (p.length : Int) > 0
      · rw [if_neg (by intro k; rw [List.map_eq_nil_iff] at k; subst k; simp at h0)] at hsn
        refine Ev.if_pos h0 (Ev.if_pos (by rw [ba_size]; omega) ?_)
        rw [show ba (join (p.map textS) [32]) ++ (⟨#[32]⟩ : ByteArray) = ba (join (p.map textS) [32] ++ [32]) from ba_append _ [32]]
        refine Ev.if_pos (by rw [ba_size, ba_size, List.length_append]; simp; omega) ?_
        rw [ba_append, List.append_assoc]
        rw [hsn] at ih
        exact ih
      · have hp0 : p = [] := List.eq_nil_of_length_eq_zero (by omega)
        subst hp0
        refine Ev.if_neg h0 ?_
        have e : join (([] : List S28).map textS) [32] = [] := rfl
        rw [e]
        refine Ev.if_pos (by rw [ba_size, ba_size]; simp; omega) ?_
        rw [ba_append, List.nil_append]
        rw [show join (([] ++ [x] : List S28).map textS) [32] = textS x from hsn.trans (if_pos (by simp))] at ih
        exact ih
    · refine Ev.if_pos (textL_nil.2 hR) (Ev.const fun k => ?_)
      unfold decsL
      rw [if_neg (fun k => hR (k x hxm))]
      rfl
theorem rDecs_ev (l : List S28) (h : ∀ x ∈ l, ID x) (hl : l.length ≤ 1000) : Ev (fun k => deckleref12_Decs.f k l) (ba (decsL l)) := rdecs_loop l h hl l [] rfl (by simp)
end Go.Proofs.YtbbonbhammfpjaaDoor.NuR
