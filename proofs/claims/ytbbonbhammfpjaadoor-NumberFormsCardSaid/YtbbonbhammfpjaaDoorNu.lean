/- Rows of numbers as texts, as plain mathematics: pieces, one number, rows. -/
import Derived.Test.YtbbonbhammfpjaaDoorDe
import Derived.Lib.Replace
import Derived.Lib.CountLaws
namespace Go.Proofs.YtbbonbhammfpjaaDoor.Nu
set_option linter.unusedVariables false
open Go.RowKit Go.Proofs.YtbbonbhammfpjaaDoorW.PrintWords Go.Proofs.YtbbonbhammfpjaaDoor.All Go.Proofs.YtbbonbhammfpjaaDoor.Dm Go.Proofs.YtbbonbhammfpjaaDoor.Ba Go.Proofs.YtbbonbhammfpjaaDoor.De Go.Lib

/-! ### Replacing once -/
theorem replace_hit {s old new : List UInt8} {i : Nat} (hne : (old == new) = false) (ho : old ≠ []) (h : index s old = i) : replace s old new 1 = s.take i ++ new ++ s.drop (i + old.length) := by
  have hc := count_hit ho h
  have hn : replaceNum s old 1 = 1 := by
    unfold replaceNum
    rw [if_neg (by omega)]
    rfl
  unfold replace
  rw [hne, hn, if_neg (by decide), show (1 : Nat) = 0 + 1 from rfl, replaceK_hit old new 0 s i h]
  rfl
theorem replace_miss {s old new : List UInt8} (hne : (old == new) = false) (h : index s old = -1) : replace s old new 1 = s := by
  have hc := count_miss h
  have hn : replaceNum s old 1 = 0 := by
    unfold replaceNum
    rw [hc, if_pos (by right; decide)]
  unfold replace
  rw [hne, hn, if_neg (by decide)]
  rfl
theorem index_none2 {l : List UInt8} {c d : UInt8} (h : c ∉ l) : index l [c, d] = -1 := by
  induction l with
  | nil => simp [index]
  | cons b l ih =>
    simp only [List.mem_cons, not_or] at h
    rw [index, ih h.2]
    have : ¬ (c = b) := h.1
    simp [this]
theorem numL_of_itoa (n : Int) : replace (itoa n) [45] [194, 175] 1 = numL n := by
  unfold itoa numL
  by_cases h : n < 0
  · rw [if_pos h, if_pos h, replace_hit (i := 0) (by decide) (by simp) (by rw [index_cons]; simp)]
    simp
  · rw [if_neg h, if_neg h]
    have e : n.natAbs = n.toNat := by omega
    rw [e]
    refine replace_miss (by decide) (Dm.index_none fun k => ?_)
    have := (decDigits_dig _ _ k).1
    exact absurd this (by decide)
theorem itoa_of_numL (n : Int) : replace (numL n) [194, 175] [45] 1 = itoa n := by
  unfold itoa numL
  by_cases h : n < 0
  · rw [if_pos h, if_pos h, replace_hit (i := 0) (by decide) (by simp) (by rw [index]; simp)]
    simp
  · rw [if_neg h, if_neg h]
    have e : n.natAbs = n.toNat := by omega
    rw [e]
    refine replace_miss (by decide) (index_none2 fun k => ?_)
    have := (decDigits_dig _ _ k).2
    exact absurd this (by decide)
theorem numL_inj {a b : Int} (ia : I a) (ib : I b) (h : numL a = numL b) : a = b := by
  have := rd1_numL a ia
  rw [h, rd1_numL b ib] at this
  exact this.symm

/-! ### Pieces -/
def digE (c : UInt8) : Bool := (decide (48 ≤ c.toNat) && decide (c.toNat ≤ 57)) || (c == 69)
/-- How many bytes the pieces of a number have that stand first. -/
def pieces : List UInt8 → Nat
  | [] => 0
  | [c] => if digE c = true then 1 else 0
  | c :: d :: l => if digE c = true then 1 + pieces (d :: l) else if c = 194 ∧ d = 175 then 2 + pieces l else 0
theorem pieces_dig {c : UInt8} (h : digE c = true) : ∀ (l : List UInt8), pieces (c :: l) = 1 + pieces l
  | [] => by simp [pieces, h]
  | d :: l => by rw [pieces, if_pos h]
theorem digE_194 : digE 194 = false := by decide
theorem pieces_minus (l : List UInt8) : pieces (194 :: 175 :: l) = 2 + pieces l := by rw [pieces, if_neg (by decide), if_pos ⟨rfl, rfl⟩]
theorem pieces_stop {c : UInt8} (h : digE c = false) {l : List UInt8} (hm : ¬ (c = 194 ∧ l.head? = some 175)) : pieces (c :: l) = 0 := by
  cases l with
  | nil => rw [pieces, if_neg (by rw [h]; decide)]
  | cons d l => rw [pieces, if_neg (by rw [h]; decide), if_neg (fun k => hm ⟨k.1, by simp [k.2]⟩)]
theorem pieces_cases (P : List UInt8 → Prop) (h0 : P []) (h1 : ∀ c l, digE c = true → P l → P (c :: l)) (h2 : ∀ l, P l → P (194 :: 175 :: l))
    (h3 : ∀ c l, digE c = false → ¬ (c = 194 ∧ l.head? = some 175) → P (c :: l)) : ∀ (k : Nat) (l : List UInt8), l.length ≤ k → P l
  | _, [], _ => h0
  | 0, _ :: _, h => by simp at h
  | k + 1, c :: l, h => by
    have hl : l.length ≤ k := by simpa using h
    cases hc : digE c with
    | true => exact h1 c l hc (pieces_cases P h0 h1 h2 h3 k l hl)
    | false =>
      by_cases hm : c = 194 ∧ l.head? = some 175
      · obtain ⟨rfl, h5⟩ := hm
        cases l with
        | nil => cases h5
        | cons d l =>
          obtain rfl : d = 175 := by simpa using h5
          exact h2 l (pieces_cases P h0 h1 h2 h3 k l (by simp at hl; omega))
      · exact h3 c l hc hm
theorem pieces_ind {P : List UInt8 → Prop} (l : List UInt8) (h0 : P []) (h1 : ∀ c l, digE c = true → P l → P (c :: l)) (h2 : ∀ l, P l → P (194 :: 175 :: l))
    (h3 : ∀ c l, digE c = false → ¬ (c = 194 ∧ l.head? = some 175) → P (c :: l)) : P l := pieces_cases P h0 h1 h2 h3 l.length l (Nat.le_refl _)
theorem pieces_le (l : List UInt8) : pieces l ≤ l.length := by
  refine pieces_ind (P := fun l => pieces l ≤ l.length) l (Nat.le_refl _) ?_ ?_ ?_
  · intro c l h ih
    rw [pieces_dig h, List.length_cons]
    omega
  · intro l ih
    rw [pieces_minus]
    simp only [List.length_cons]
    omega
  · intro c l h hm
    rw [pieces_stop h hm]
    exact Nat.zero_le _
theorem pieces_append (a b : List UInt8) : pieces a = a.length → pieces (a ++ b) = a.length + pieces b := by
  refine pieces_ind (P := fun a => pieces a = a.length → pieces (a ++ b) = a.length + pieces b) a ?_ ?_ ?_ ?_
  · intro _
    simp
  · intro c l h ih hl
    rw [pieces_dig h, List.length_cons] at hl
    rw [List.cons_append, pieces_dig h, ih (by omega), List.length_cons]
    omega
  · intro l ih hl
    rw [pieces_minus] at hl
    simp only [List.length_cons] at hl
    simp only [List.cons_append, List.length_cons]
    rw [pieces_minus, ih (by omega)]
    omega
  · intro c l h hm hl
    rw [pieces_stop h hm] at hl
    simp at hl
/-- What doesn't go on a piece may stand behind. -/
theorem pieces_behind (a : List UInt8) (c : UInt8) (b : List UInt8) (hc : digE c = false) (h1 : c ≠ 194) (h2 : c ≠ 175) : pieces (a ++ c :: b) = pieces a := by
  refine pieces_ind (P := fun a => pieces (a ++ c :: b) = pieces a) a ?_ ?_ ?_ ?_
  · exact (pieces_stop hc (fun k => h1 k.1)).trans rfl
  · intro x l h ih
    rw [List.cons_append, pieces_dig h, pieces_dig h, ih]
  · intro l ih
    simp only [List.cons_append]
    rw [pieces_minus, pieces_minus, ih]
  · intro x l h hm
    rw [pieces_stop h hm, List.cons_append, pieces_stop h]
    rintro ⟨k1, k2⟩
    cases l with
    | nil =>
      simp at k2
      exact h2 k2
    | cons d l => exact hm ⟨k1, by simpa using k2⟩
theorem pieces_digs : ∀ (l : List UInt8), (∀ c ∈ l, isDig c) → pieces l = l.length
  | [], _ => rfl
  | c :: l, h => by
    have hc := h c (List.mem_cons_self)
    have hd : digE c = true := by
      unfold isDig at hc
      unfold digE
      simp [hc.1, hc.2]
    rw [pieces_dig hd, pieces_digs l (fun x hx => h x (List.mem_cons_of_mem _ hx)), List.length_cons]
    omega
theorem pieces_numL (n : Int) : pieces (numL n) = (numL n).length := by
  unfold numL
  split
  · rw [pieces_minus, pieces_digs _ (decDigits_dig _)]
    simp only [List.length_cons]
    omega
  · exact pieces_digs _ (decDigits_dig _)
theorem pieces_textL (m e : Int) : pieces (textL m e) = (textL m e).length := by
  unfold textL
  split
  · split
    · exact pieces_numL m
    · rw [pieces_append _ _ (pieces_numL m), pieces_dig (by decide), pieces_numL, List.length_append, List.length_cons]
      omega
  · rfl

/-! ### One number -/
def repM (s : List UInt8) : List UInt8 := replace s [194, 175] [45] 1
def readN (s : List UInt8) : Int × Int × Bool :=
  if (parseD s).2.2 = true then ((parseD s).1, (parseD s).2.1, true)
  else ((normD (atoiVal (repM s)) 0).1, (normD (atoiVal (repM s)) 0).2.1, atoiOk (repM s) && decide (numL (atoiVal (repM s)) = s))
theorem readN_text {m e : Int} (h : isRight m e) (im : I m) : readN (textL m e) = (m, e, true) := by
  unfold readN
  rw [parse_text h im]
  rfl
theorem isRight_zero_exp {m e : Int} (h : isRight m e) : isRight m 0 := by
  rcases h with ⟨h1, _⟩ | ⟨h1, h2, _, _⟩
  · exact .inl ⟨h1, rfl⟩
  · exact .inr ⟨h1, h2, by decide, by decide⟩
theorem textL_zero {m : Int} (h : isRight m 0) : textL m 0 = numL m := by
  unfold textL
  rw [if_pos h, if_pos rfl]
theorem text_is_num {m e n : Int} (h : isRight m e) (im : I m) (hn : I n) (ht : textL m e = numL n) : m = n ∧ e = 0 := by
  have he : e = 0 := by
    by_cases k : e = 0
    · exact k
    · exfalso
      unfold textL at ht
      rw [if_pos h, if_neg k] at ht
      refine numL_no_E n ?_
      rw [← ht]
      simp
  subst he
  rw [textL_zero h] at ht
  exact ⟨numL_inj im hn ht, rfl⟩
theorem readN_num (n : Int) (h : I n) : readN (numL n) = ((normD n 0).1, (normD n 0).2.1, true) := by
  unfold readN
  cases hp : (parseD (numL n)).2.2 with
  | true =>
    rw [if_pos rfl]
    rcases hq : parseD (numL n) with ⟨m, e, b⟩
    rw [hq] at hp
    obtain rfl : b = true := hp
    obtain ⟨hr, ht, im, ie⟩ := parse_true hq
    obtain ⟨rfl, rfl⟩ := text_is_num hr im h ht
    rw [normD_of_right hr]
  | false =>
    rw [if_neg (by decide)]
    have e1 : repM (numL n) = itoa n := itoa_of_numL n
    have e2 : atoiAll (itoa n) = .ok n := atoi_itoa n h.1 h.2
    have e3 : atoiVal (itoa n) = n := by unfold atoiVal; rw [e2]
    have e4 : atoiOk (itoa n) = true := (atoiOk_iff _).2 (by rw [e2, e3])
    rw [e1, e3, e4]
    simp
theorem readN_true {s : List UInt8} {m e : Int} (h : readN s = (m, e, true)) :
    isRight m e ∧ I m ∧ (textL m e = s ∨ ((parseD s).2.2 = false ∧ ∃ n, I n ∧ numL n = s ∧ normD n 0 = (m, e, true) ∧ n = m * 10 ^ e.toNat ∧ 0 ≤ e ∧ e ≤ 18)) := by
  unfold readN at h
  cases hp : (parseD s).2.2 with
  | true =>
    rw [if_pos hp] at h
    rcases hq : parseD s with ⟨m', e', b⟩
    rw [hq] at h hp
    obtain rfl : b = true := hp
    simp only [Prod.mk.injEq, and_true] at h
    obtain ⟨rfl, rfl⟩ := h
    obtain ⟨hr, ht, im, ie⟩ := parse_true hq
    exact ⟨hr, im, .inl ht⟩
  | false =>
    rw [if_neg (by rw [hp]; decide)] at h
    simp only [Prod.mk.injEq, Bool.and_eq_true, decide_eq_true_eq] at h
    obtain ⟨h1, h2, h3, h4⟩ := h
    have hI := atoiVal_I (repM s)
    generalize atoiVal (repM s) = n at *
    obtain ⟨a, b, hN, hr, hv, b0, b1⟩ := of_val n hI.1 hI.2
    rw [hN] at h1 h2
    simp only at h1 h2
    subst h1 h2
    refine ⟨hr, ?_, .inr ⟨rfl, n, hI, h4, hN, hv, b0, b1⟩⟩
    have hp := pow_ge b.toNat
    generalize (10 : Int) ^ b.toNat = p at hv hp
    unfold I at hI ⊢
    rcases Int.le_total 0 a with k | k
    · have : a * 1 ≤ a * p := Int.mul_le_mul_of_nonneg_left hp k
      omega
    · have : a * p ≤ a * 1 := Int.mul_le_mul_of_nonpos_left k hp
      omega
theorem readN_nil : (readN []).2.2 = false := by decide

/-! ### Rows -/
def goesOn (b : List UInt8) : Bool := (b.head? == some 32) && !(pieces (b.drop 1) == 0)
def readL (s : List UInt8) : Option (List (Int × Int) × List UInt8) :=
  if (readN (s.take (pieces s))).2.2 = true then
    if h : goesOn (s.drop (pieces s)) = true then (readL ((s.drop (pieces s)).drop 1)).map fun q => (((readN (s.take (pieces s))).1, (readN (s.take (pieces s))).2.1) :: q.1, q.2)
    else some ([((readN (s.take (pieces s))).1, (readN (s.take (pieces s))).2.1)], s.drop (pieces s))
  else none
termination_by s.length
decreasing_by
  unfold goesOn at h
  have h2 : (s.drop (pieces s)).length ≤ s.length := by rw [List.length_drop]; omega
  cases hd : s.drop (pieces s) with
  | nil => rw [hd] at h; simp at h
  | cons c l =>
    rw [hd] at h2
    simp at h2 ⊢
    omega
theorem readL_none {s : List UInt8} (h : (readN (s.take (pieces s))).2.2 = false) : readL s = none := by rw [readL, if_neg (by rw [h]; decide)]
theorem readL_stop {s : List UInt8} {m e : Int} (h : readN (s.take (pieces s)) = (m, e, true)) (hg : goesOn (s.drop (pieces s)) = false) : readL s = some ([(m, e)], s.drop (pieces s)) := by
  rw [readL, if_pos (by rw [h]), dif_neg (by rw [hg]; decide), h]
theorem readL_go {s : List UInt8} {m e : Int} (h : readN (s.take (pieces s)) = (m, e, true)) (hg : goesOn (s.drop (pieces s)) = true) : readL s = (readL ((s.drop (pieces s)).drop 1)).map fun q => ((m, e) :: q.1, q.2) := by
  rw [readL, if_pos (by rw [h]), dif_pos hg, h]
theorem readN_or (t : List UInt8) : (readN t).2.2 = false ∨ ∃ m e, readN t = (m, e, true) := by
  rcases h : readN t with ⟨m, e, b⟩
  cases b with
  | false => exact .inl rfl
  | true => exact .inr ⟨m, e, rfl⟩
theorem goesOn_cons {b : List UInt8} (h : goesOn b = true) : ∃ l, b = 32 :: l ∧ pieces l ≠ 0 := by
  unfold goesOn at h
  cases b with
  | nil => simp at h
  | cons c l =>
    simp at h
    obtain ⟨rfl, h⟩ := h
    exact ⟨l, rfl, h⟩
theorem goesOn_of {l : List UInt8} (h : pieces l ≠ 0) : goesOn (32 :: l) = true := by
  unfold goesOn
  simp [h]
theorem rest_lt {s l : List UInt8} {c : UInt8} (h : s.drop (pieces s) = c :: l) : l.length < s.length := by
  have := congrArg List.length h
  rw [List.length_drop, List.length_cons] at this
  omega
/-- What is read: right numbers, at least one; what is left is less, and its end. -/
theorem readL_spec : ∀ (k : Nat) (s : List UInt8), s.length ≤ k → ∀ a b, readL s = some (a, b) → a ≠ [] ∧ b <:+ s ∧ b.length < s.length ∧ ∀ x ∈ a, isRight x.1 x.2 ∧ I x.1 := by
  intro k
  induction k with
  | zero =>
    intro s hs a b h
    obtain rfl : s = [] := List.eq_nil_of_length_eq_zero (by omega)
    rw [readL_none (by exact readN_nil)] at h
    cases h
  | succ k ih =>
    intro s hs a b h
    rcases readN_or (s.take (pieces s)) with h1 | ⟨m, e, h1⟩
    · rw [readL_none h1] at h
      cases h
    · obtain ⟨hr, im, _⟩ := readN_true h1
      have hpos : pieces s ≠ 0 := by
        intro k0
        rw [k0, List.take_zero] at h1
        have := readN_nil
        rw [h1] at this
        cases this
      cases hg : goesOn (s.drop (pieces s)) with
      | false =>
        rw [readL_stop h1 hg] at h
        simp only [Option.some.injEq, Prod.mk.injEq] at h
        obtain ⟨rfl, rfl⟩ := h
        have hl := pieces_le s
        refine ⟨by simp, List.drop_suffix _ _, by rw [List.length_drop]; omega, ?_⟩
        intro x hx
        rw [List.mem_singleton] at hx
        subst hx
        exact ⟨hr, im⟩
      | true =>
        rw [readL_go h1 hg] at h
        obtain ⟨l, hl, hp⟩ := goesOn_cons hg
        have hlt := rest_lt hl
        rw [hl, List.drop_one, List.tail_cons] at h
        rcases hq : readL l with _ | ⟨a', b'⟩
        · rw [hq] at h; cases h
        · rw [hq] at h
          simp only [Option.map_some, Option.some.injEq, Prod.mk.injEq] at h
          obtain ⟨rfl, rfl⟩ := h
          obtain ⟨_, h5, h6, h7⟩ := ih l (by omega) a' b' hq
          refine ⟨by simp, ?_, by omega, ?_⟩
          · refine h5.trans ?_
            have : l <:+ s.drop (pieces s) := by rw [hl]; exact List.suffix_cons _ _
            exact this.trans (List.drop_suffix _ _)
          · intro x hx
            rcases List.mem_cons.1 hx with rfl | hx
            · exact ⟨hr, im⟩
            · exact h7 x hx
theorem readL_pos {t : List UInt8} {q : List (Int × Int) × List UInt8} (h : readL t = some q) : pieces t ≠ 0 := by
  intro k
  rw [readL_none (by rw [k, List.take_zero]; exact readN_nil)] at h
  cases h
/-- Two rows with a space between are one. -/
theorem readL_append (t : List UInt8) (d : List (Int × Int)) (e : List UInt8) (ht : readL t = some (d, e)) : ∀ (k : Nat) (s : List UInt8), s.length ≤ k → ∀ a, readL s = some (a, []) → readL (s ++ 32 :: t) = some (a ++ d, e) := by
  intro k
  induction k with
  | zero =>
    intro s hs a h
    obtain rfl : s = [] := List.eq_nil_of_length_eq_zero (by omega)
    rw [readL_none (by exact readN_nil)] at h
    cases h
  | succ k ih =>
    intro s hs a h
    have hpc : pieces (s ++ 32 :: t) = pieces s := pieces_behind s 32 t (by decide) (by decide) (by decide)
    have hle := pieces_le s
    have htk : (s ++ 32 :: t).take (pieces (s ++ 32 :: t)) = s.take (pieces s) := by rw [hpc, List.take_append_of_le_length hle]
    have hdr : (s ++ 32 :: t).drop (pieces (s ++ 32 :: t)) = s.drop (pieces s) ++ 32 :: t := by rw [hpc, List.drop_append_of_le_length hle]
    rcases readN_or (s.take (pieces s)) with h1 | ⟨m, x, h1⟩
    · rw [readL_none h1] at h
      cases h
    · cases hg : goesOn (s.drop (pieces s)) with
      | false =>
        rw [readL_stop h1 hg] at h
        simp only [Option.some.injEq, Prod.mk.injEq] at h
        obtain ⟨rfl, h2⟩ := h
        have hg2 : goesOn ((s ++ 32 :: t).drop (pieces (s ++ 32 :: t))) = true := by
          rw [hdr, h2, List.nil_append]
          exact goesOn_of (readL_pos ht)
        rw [readL_go (by rw [htk]; exact h1) hg2, hdr, h2, List.nil_append, List.drop_one, List.tail_cons, ht]
        rfl
      | true =>
        obtain ⟨l, hl, hp⟩ := goesOn_cons hg
        have hlt := rest_lt hl
        rw [readL_go h1 hg, hl, List.drop_one, List.tail_cons] at h
        have hg2 : goesOn ((s ++ 32 :: t).drop (pieces (s ++ 32 :: t))) = true := by
          rw [hdr, hl, List.cons_append]
          refine goesOn_of ?_
          rw [pieces_behind l 32 t (by decide) (by decide) (by decide)]
          exact hp
        rcases hq : readL l with _ | ⟨a', b'⟩
        · rw [hq] at h; cases h
        · rw [hq] at h
          simp only [Option.map_some, Option.some.injEq, Prod.mk.injEq] at h
          obtain ⟨rfl, rfl⟩ := h
          rw [readL_go (by rw [htk]; exact h1) hg2, hdr, hl, List.cons_append, List.drop_one, List.tail_cons, ih l (by omega) a' hq]
          rfl

/-! ### Rows that were written -/
def Good (t : List UInt8) (x : Int × Int) : Prop := pieces t = t.length ∧ readN t = (x.1, x.2, true)
theorem good_num (n : Int) (h : I n) : Good (numL n) ((normD n 0).1, (normD n 0).2.1) := ⟨pieces_numL n, readN_num n h⟩
theorem good_text (m e : Int) (h : isRight m e) (im : I m) : Good (textL m e) (m, e) := ⟨pieces_textL m e, readN_text h im⟩
/-- A good piece, behind which no other piece stands. -/
theorem readL_one {t : List UInt8} {x : Int × Int} (h : Good t x) (b : List UInt8) (hb : pieces b = 0) (hg : goesOn b = false) : readL (t ++ b) = some ([x], b) := by
  have hp : pieces (t ++ b) = t.length := by rw [pieces_append _ _ h.1, hb, Nat.add_zero]
  have ht : (t ++ b).take (pieces (t ++ b)) = t := by rw [hp, List.take_left]
  have hd : (t ++ b).drop (pieces (t ++ b)) = b := by rw [hp, List.drop_left]
  have := readL_stop (s := t ++ b) (m := x.1) (e := x.2) (by rw [ht]; exact h.2) (by rw [hd]; exact hg)
  rw [this, hd]
theorem join_cons2 (t u : List UInt8) (ts : List (List UInt8)) : join (t :: u :: ts) [32] = t ++ 32 :: join (u :: ts) [32] := by
  unfold join
  simp [List.intercalate]
theorem join_one (t : List UInt8) : join [t] [32] = t := by
  unfold join
  simp [List.intercalate]
theorem readL_join (more : List UInt8) (hm : pieces more = 0) (hg : goesOn more = false) : ∀ (ps : List (List UInt8 × (Int × Int))), ps ≠ [] → (∀ p ∈ ps, Good p.1 p.2) → readL (join (ps.map (·.1)) [32] ++ more) = some (ps.map (·.2), more)
  | [], h, _ => absurd rfl h
  | [p], _, h => by
    simp only [List.map_cons, List.map_nil]
    rw [join_one]
    exact readL_one (h p (List.mem_singleton_self p)) more hm hg
  | p :: q :: ps, _, h => by
    have ih := readL_join more hm hg (q :: ps) (by simp) (fun x hx => h x (List.mem_cons_of_mem _ hx))
    have hp' := h p (List.mem_cons_self)
    simp only [List.map_cons] at ih ⊢
    rw [join_cons2, List.append_assoc, List.cons_append]
    generalize join (q.1 :: ps.map (·.1)) [32] ++ more = r at ih ⊢
    have hp : pieces (p.1 ++ 32 :: r) = p.1.length := by rw [pieces_behind p.1 32 _ (by decide) (by decide) (by decide), hp'.1]
    have ht : (p.1 ++ 32 :: r).take (pieces (p.1 ++ 32 :: r)) = p.1 := by rw [hp, List.take_left]
    have hd : (p.1 ++ 32 :: r).drop (pieces (p.1 ++ 32 :: r)) = 32 :: r := by rw [hp, List.drop_left]
    rw [readL_go (m := p.2.1) (e := p.2.2) (by rw [ht]; exact hp'.2) (by rw [hd]; exact goesOn_of (readL_pos ih)), hd, List.drop_one, List.tail_cons, ih]
    rfl

/-! ### The document's one number -/
def stripR : List UInt8 → Nat → List UInt8 × Nat
  | [], n => ([], n)
  | [c], n => ([c], n)
  | c :: d :: l, n => if c = 48 then stripR (d :: l) (n + 1) else (c :: d :: l, n)
theorem stripR_stop {r : List UInt8} (h : ∀ c, r.head? = some c → c ≠ 48) (n : Nat) : stripR r n = (r, n) := by
  match r with
  | [] => rfl
  | [c] => rfl
  | c :: d :: l => rw [stripR, if_neg (h c rfl)]
theorem stripR_zeros (r : List UInt8) (hr : r ≠ []) (h : ∀ c, r.head? = some c → c ≠ 48) : ∀ (k n : Nat), stripR (List.replicate k 48 ++ r) n = (r, n + k)
  | 0, n => stripR_stop h n
  | k + 1, n => by
    have ih := stripR_zeros r hr h k (n + 1)
    rw [List.replicate_succ, List.cons_append]
    cases hq : List.replicate k 48 ++ r with
    | nil => exact absurd (List.append_eq_nil_iff.1 hq).2 hr
    | cons d l =>
      rw [hq] at ih
      rw [stripR, if_pos rfl, ih]
      congr 1
      omega
def stripD (s : List UInt8) : List UInt8 := (stripR s.reverse 0).1.reverse
def stripN (s : List UInt8) : Nat := (stripR s.reverse 0).2
def oneC (s : List UInt8) : Prop := (parseD (stripD s)).2.2 = true ∧ (parseD (stripD s)).2.1 = 0 ∧ stripN s ≤ 18 ∧ (whole (parseD (stripD s)).1 (stripN s : Int)).2 = true ∧ numL (whole (parseD (stripD s)).1 (stripN s : Int)).1 = s
instance (s : List UInt8) : Decidable (oneC s) := by unfold oneC; infer_instance
def oneR (s : List UInt8) : Int × Int × Bool :=
  if (parseD s).2.2 = true then ((parseD s).1, (parseD s).2.1, true) else if oneC s then ((parseD (stripD s)).1, (stripN s : Int), true) else (0, 0, false)
theorem numL_ten {m : Int} (h : m ≠ 0) : numL (m * 10) = numL m ++ [48] := by
  have e : (m * 10).natAbs = m.natAbs * 10 := by rw [Int.natAbs_mul]; rfl
  have hn : ¬ m.natAbs * 10 < 10 := by omega
  have hd : decDigits (m.natAbs * 10) = decDigits m.natAbs ++ [48] := by
    rw [decDigits_big hn, Nat.mul_div_cancel _ (by decide), Nat.mul_mod_left]
    rfl
  unfold numL
  rw [e, hd]
  by_cases h0 : m < 0
  · rw [if_pos h0, if_pos (by omega)]
    rfl
  · rw [if_neg h0, if_neg (by omega)]
theorem numL_mul {m : Int} (h : m ≠ 0) : ∀ (k : Nat), numL (m * 10 ^ k) = numL m ++ List.replicate k 48
  | 0 => by simp
  | k + 1 => by
    have hp := pow_ge k
    have h2 : m * 10 ^ k ≠ 0 := fun k0 => by
      rcases Int.mul_eq_zero.1 k0 with k1 | k1
      · exact h k1
      · omega
    rw [Int.pow_succ, ← Int.mul_assoc, numL_ten h2, numL_mul h k, List.append_assoc, List.replicate_succ']
theorem numL_tail {m e : Int} (h : isRight m e) (h0 : m ≠ 0) : ∀ c, (numL m).reverse.head? = some c → c ≠ 48 := by
  intro c hc
  have ht := decDigits_tail (mag h h0).1
  have hl : (decDigits m.natAbs).getLast? = some c := by
    rw [List.head?_reverse] at hc
    unfold numL at hc
    split at hc
    · cases hd : decDigits m.natAbs with
      | nil => exact absurd hd (decDigits_ne_nil _)
      | cons a l =>
        rw [hd] at hc
        simpa using hc
    · exact hc
  intro k
  subst k
  exact ht 48 hl rfl
theorem oneR_of {s : List UInt8} {m e : Int} (h : readN s = (m, e, true)) : oneR s = (m, e, true) := by
  obtain ⟨hr, im, h2⟩ := readN_true h
  unfold oneR
  cases hp : (parseD s).2.2 with
  | true =>
    unfold readN at h
    rw [if_pos hp] at h
    rw [if_pos rfl]
    exact h
  | false =>
    rw [if_neg (by decide)]
    rcases h2 with h2 | ⟨_, n, hI, hs, hN, hv, b0, b1⟩
    · subst h2
      rw [parse_text hr im] at hp
      cases hp
    · have he : e ≠ 0 := by
        intro k
        subst k
        have hn : n = m := by simpa using hv
        subst hn
        rw [← hs, ← textL_zero hr, parse_text hr im] at hp
        cases hp
      have hm : m ≠ 0 := by
        rcases hr with ⟨_, k⟩ | ⟨k, _⟩
        · exact absurd k he
        · exact k
      obtain ⟨k, rfl⟩ := Int.eq_ofNat_of_zero_le b0
      rw [Int.toNat_natCast] at hv
      have hs2 : s.reverse = List.replicate k 48 ++ (numL m).reverse := by
        rw [← hs, hv, numL_mul hm, List.reverse_append, List.reverse_replicate]
      have hst : stripR s.reverse 0 = ((numL m).reverse, 0 + k) := by
        rw [hs2]
        exact stripR_zeros _ (by simpa using numL_ne_nil m) (numL_tail hr hm) k 0
      have e1 : stripD s = numL m := by unfold stripD; rw [hst, List.reverse_reverse]
      have e2 : stripN s = k := by unfold stripN; rw [hst, Nat.zero_add]
      have e3 : parseD (numL m) = (m, 0, true) := by rw [← textL_zero (isRight_zero_exp hr), parse_text (isRight_zero_exp hr) im]
      have e4 : whole m (k : Int) = (n, true) := by
        unfold whole
        rw [Int.toNat_natCast, ← hv, if_pos ⟨hr, b0, b1, hI.1, hI.2⟩]
      have hc : oneC s := by
        unfold oneC
        rw [e1, e2, e3]
        show true = true ∧ (0 : Int) = 0 ∧ k ≤ 18 ∧ (whole m (k : Int)).2 = true ∧ numL (whole m (k : Int)).1 = s
        rw [e4]
        exact ⟨rfl, rfl, by omega, rfl, hs⟩
      rw [if_pos hc, e1, e2, e3]
theorem whole_I {m e : Int} (h : (whole m e).2 = true) : I (whole m e).1 := by
  unfold whole at h ⊢
  split
  · rename_i k
    exact ⟨k.2.2.2.1, k.2.2.2.2⟩
  · exact ⟨by decide, by decide⟩
theorem oneR_false {s : List UInt8} (h : (readN s).2.2 = false) : oneR s = (0, 0, false) := by
  unfold oneR
  rw [if_neg (fun k => by unfold readN at h; rw [if_pos k] at h; cases h), if_neg]
  rintro ⟨_, _, _, h4, h5⟩
  have := readN_num _ (whole_I h4)
  rw [h5] at this
  rw [this] at h
  cases h
end Go.Proofs.YtbbonbhammfpjaaDoor.Nu
