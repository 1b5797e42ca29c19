/- The law DecimalPlain over what the printed functions compute. -/
import Derived.Test.YtnpkjakkjfjikaaDoorAll19
import Derived.Test.YtnpkjakkjfjikaaDoorD6s
namespace Go.Proofs.YtnpkjakkjfjikaaDoor.Pure
open Go.RowKit Go.Proofs.YtnpkjakkjfjikaaDoorW.PrintWords Go.Proofs.YtnpkjakkjfjikaaDoor.All Go.Proofs.YtnpkjakkjfjikaaDoor.Dm Go.Proofs.YtnpkjakkjfjikaaDoor.Ba Go.Proofs.YtnpkjakkjfjikaaDoor.De Go.Lib

/-! ### A text's signs -/
def plainSign (c : UInt8) : Prop := isDig c ∨ c = 69 ∨ c = 194 ∨ c = 175
def cnt (c : UInt8) (l : List UInt8) : Nat := l.countP (· == c)
theorem numL_plain (n : Int) : ∀ c ∈ numL n, plainSign c := by
  intro c hc
  unfold numL at hc
  split at hc
  · rcases List.mem_cons.1 hc with rfl | hc
    · exact .inr (.inr (.inl rfl))
    · rcases List.mem_cons.1 hc with rfl | hc
      · exact .inr (.inr (.inr rfl))
      · exact .inl (decDigits_dig _ c hc)
  · exact .inl (decDigits_dig _ c hc)
theorem cnt_digits (c : UInt8) (hc : ¬ isDig c) (u : Nat) : cnt c (decDigits u) = 0 := by
  unfold cnt
  rw [List.countP_eq_zero]
  intro a ha
  have := decDigits_dig u a ha
  intro k
  rw [beq_iff_eq] at k
  subst k
  exact hc this
theorem cnt_numL_194 (n : Int) : cnt 194 (numL n) = if n < 0 then 1 else 0 := by
  have h := cnt_digits 194 (by unfold isDig; decide) n.natAbs
  unfold numL
  split
  · unfold cnt at h ⊢
    rw [List.countP_cons, List.countP_cons, h]
    decide
  · exact h
theorem cnt_numL_69 (n : Int) : cnt 69 (numL n) = 0 := by
  have h := cnt_digits 69 (by unfold isDig; decide) n.natAbs
  unfold numL
  split
  · unfold cnt at h ⊢
    rw [List.countP_cons, List.countP_cons, h]
    decide
  · exact h
def plainEnd (l : List UInt8) (signs marks m e : Int) : Prop :=
  signs = (if m < 0 then 1 else 0) + (if e < 0 then 1 else 0) ∧ ((marks == 1) = (e != 0)) ∧ marks ≤ 1 ∧ l.length ≤ 30
theorem plain_stop (l : List UInt8) (signs marks m e : Int) (h : plainEnd l signs marks m e) : Ev (fun k => decklelaw06_DecimalPlain_t.l0 k true (ba l) signs marks (l.length : Int) m e) true := by
  obtain ⟨h1, h2, h3, h4⟩ := h
  refine Ev.step (f := fun _ => some true) (fun k => ?_) (Ev.now _)
  simp only [decklelaw06_DecimalPlain_t.l0]
  rw [ba_size, if_neg (by omega)]
  have e1 : decide ((l.length : Int) ≤ 30) = true := decide_eq_true (by omega)
  have e2 : ((marks == 1) == (e != 0)) = true := by rw [beq_iff_eq]; exact h2
  by_cases c1 : m < 0 <;> by_cases c2 : e < 0
  · rw [if_pos c1, if_pos c2, if_pos trivial, if_pos (by simp [c1, c2] at h1; omega), if_pos e2, if_pos h3, e1]
  · rw [if_pos c1, if_neg c2, if_pos trivial, if_pos (by simp [c1, c2] at h1; omega), if_pos e2, if_pos h3, e1]
  · rw [if_neg c1, if_pos c2, if_pos trivial, if_pos (by simp [c1, c2] at h1; omega), if_pos e2, if_pos h3, e1]
  · rw [if_neg c1, if_neg c2, if_pos trivial, if_pos (by simp [c1, c2] at h1; omega), if_pos e2, if_pos h3, e1]
theorem plain_loop (l : List UInt8) (hl : ∀ c ∈ l, plainSign c) (m e : Int) (hlen : l.length ≤ 30) : ∀ (d i : Nat) (signs marks : Int), i + d = l.length → I signs → I marks → -1000 ≤ signs → signs ≤ i → -1000 ≤ marks → marks ≤ i →
    plainEnd l (signs + cnt 194 (l.drop i)) (marks + cnt 69 (l.drop i)) m e → Ev (fun k => decklelaw06_DecimalPlain_t.l0 k true (ba l) signs marks (i : Int) m e) true
  | 0, i, signs, marks, hd, hs, hm, _, _, _, _, hE => by
    have hi : i = l.length := by omega
    subst hi
    rw [List.drop_length] at hE
    have e0 : ∀ c, cnt c [] = 0 := fun _ => rfl
    rw [e0, e0, Int.natCast_zero, Int.add_zero, Int.add_zero] at hE
    exact plain_stop l signs marks m e hE
  | d + 1, i, signs, marks, hd, hs, hm, s1, s2, m1, m2, hE => by
    have hi : i < l.length := by omega
    have hdrop : l.drop i = l[i] :: l.drop (i + 1) := List.drop_eq_getElem_cons hi
    have hb := ba_bt l i hi
    have hw : wrap64 ((i : Int) + 1) = ((i + 1 : Nat) : Int) := by rw [wrapI (by unfold I; omega)]; omega
    have c0 : (i : Int) < ((ba l).size : Int) := by rw [ba_size]; omega
    have step := fun signs marks => plain_loop l hl m e hlen d (i + 1) signs marks (by omega)
    have hc : ∀ c, cnt c (l.drop i) = (if l[i] = c then 1 else 0) + cnt c (l.drop (i + 1)) := by
      intro c
      rw [hdrop]
      unfold cnt
      rw [List.countP_cons]
      by_cases h : l[i] = c
      · simp [h]; omega
      · simp [h]
    rw [hc 194, hc 69] at hE
    rcases hl l[i] (List.getElem_mem hi) with h | h | h | h
    · have h' := h
      unfold isDig at h'
      have n1 : ¬ l[i] = 194 := fun k => by rw [k] at h'; exact absurd h'.2 (by decide)
      have n2 : ¬ l[i] = 69 := fun k => by rw [k] at h'; exact absurd h'.2 (by decide)
      rw [if_neg n1, if_neg n2, Nat.zero_add, Nat.zero_add] at hE
      refine Ev.step (fun k => ?_) (step signs marks hs hm s1 (by omega) m1 (by omega) hE)
      simp only [decklelaw06_DecimalPlain_t.l0]
      rw [if_pos c0, if_pos (by omega), hb, if_pos (by omega), if_pos (by omega), hw]
    · rw [if_neg (by rw [h]; decide), if_pos h, Nat.zero_add] at hE
      refine Ev.step (fun k => ?_) (step signs (marks + 1) hs (by unfold I at hm ⊢; omega) s1 (by omega) (by omega) (by omega) (by rw [show marks + 1 + ((cnt 69 (List.drop (i + 1) l) : Nat) : Int) = marks + ((1 + cnt 69 (List.drop (i + 1) l) : Nat) : Int) by omega]; exact hE))
      have hv : ((l[i].toNat : Nat) : Int) = 69 := by rw [h]; rfl
      simp only [decklelaw06_DecimalPlain_t.l0]
      rw [if_pos c0, if_pos (by omega), hb, hv, if_pos (by omega), if_neg (by omega), if_pos rfl, hw, wrapI (n := marks + 1) (by unfold I; omega)]
    · rw [if_pos h, if_neg (by rw [h]; decide), Nat.zero_add] at hE
      refine Ev.step (fun k => ?_) (step (signs + 1) marks (by unfold I at hs ⊢; omega) hm (by omega) (by omega) m1 (by omega) (by rw [show signs + 1 + ((cnt 194 (List.drop (i + 1) l) : Nat) : Int) = signs + ((1 + cnt 194 (List.drop (i + 1) l) : Nat) : Int) by omega]; exact hE))
      have hv : ((l[i].toNat : Nat) : Int) = 194 := by rw [h]; rfl
      simp only [decklelaw06_DecimalPlain_t.l0]
      rw [if_pos c0, if_pos (by omega), hb, hv, if_pos (by omega), if_neg (by omega), if_neg (by omega), if_pos rfl, hw, wrapI (n := signs + 1) (by unfold I; omega)]
    · rw [if_neg (by rw [h]; decide), if_neg (by rw [h]; decide), Nat.zero_add, Nat.zero_add] at hE
      refine Ev.step (fun k => ?_) (step signs marks hs hm s1 (by omega) m1 (by omega) hE)
      have hv : ((l[i].toNat : Nat) : Int) = 175 := by rw [h]; rfl
      simp only [decklelaw06_DecimalPlain_t.l0]
      rw [if_pos c0, if_pos (by omega), hb, hv, if_pos (by omega), if_neg (by omega), if_neg (by omega), if_neg (by omega), if_pos rfl, hw]
theorem exp_len {e : Int} (h1 : -32768 ≤ e) (h2 : e ≤ 32767) : (numL e).length ≤ 7 := by
  have : (decDigits e.natAbs).length ≤ 5 := by
    rw [decDigits_length]
    refine nDigits_le (by decide) ?_
    have : (10 : Nat) ^ 5 = 100000 := by decide
    omega
  unfold numL
  split <;> simp <;> omega
theorem cnt_append (c : UInt8) (l r : List UInt8) : cnt c (l ++ r) = cnt c l + cnt c r := by unfold cnt; rw [List.countP_append]
theorem text_end {m e : Int} (im : I m) (h : isRight m e) : plainEnd (textL m e) (0 + cnt 194 (textL m e)) (0 + cnt 69 (textL m e)) m e ∧ (∀ c ∈ textL m e, plainSign c) ∧ (textL m e).length ≤ 30 := by
  have hexp : -32768 ≤ e ∧ e ≤ 32767 := by
    rcases h with ⟨_, k⟩ | ⟨_, _, a, b⟩
    · omega
    · exact ⟨a, b⟩
  have l1 := numL_len im
  have l2 := exp_len hexp.1 hexp.2
  unfold textL
  rw [if_pos h]
  by_cases h0 : e = 0
  · rw [if_pos h0]
    refine ⟨⟨?_, ?_, ?_, by omega⟩, numL_plain m, by omega⟩
    · rw [cnt_numL_194, if_neg (show ¬ e < 0 by omega)]
      split <;> rfl
    · rw [cnt_numL_69, h0]; rfl
    · rw [cnt_numL_69]; decide
  · rw [if_neg h0]
    have c1 : cnt 69 (numL m ++ 69 :: numL e) = 1 := by
      rw [cnt_append, cnt_numL_69, show (69 : UInt8) :: numL e = [69] ++ numL e from rfl, cnt_append, cnt_numL_69]
      rfl
    have c2 : cnt 194 (numL m ++ 69 :: numL e) = (if m < 0 then 1 else 0) + (if e < 0 then 1 else 0) := by
      rw [cnt_append, cnt_numL_194, show (69 : UInt8) :: numL e = [69] ++ numL e from rfl, cnt_append, cnt_numL_194, show cnt 194 [69] = 0 from rfl, Nat.zero_add]
    refine ⟨⟨?_, ?_, ?_, by simp; omega⟩, ?_, by simp; omega⟩
    · rw [c2]
      split <;> split <;> rfl
    · rw [c1]
      simp [h0]
    · rw [c1]; decide
    · intro c hc
      rcases List.mem_append.1 hc with hc | hc
      · exact numL_plain m c hc
      · rcases List.mem_cons.1 hc with rfl | hc
        · exact .inr (.inl rfl)
        · exact numL_plain e c hc
theorem DecimalPlain (a0_0 a0_1 : Int) (h1 : I a0_0) (h2 : I a0_1) : ∃ k, decklelaw06_DecimalPlain_t.f k a0_0 a0_1 = some true := by
  refine Ev.rounds (g := fun k => decklelaw06_DecimalPlain_t.f k a0_0 a0_1) ?_
  unfold decklelaw06_DecimalPlain_t.f
  refine Ev.bind small_ev (Ev.bind (text_ev _ _ h1 h2) ?_)
  rw [ba_toList]
  by_cases hr : isRight a0_0 a0_1
  · obtain ⟨hE, hP, hL⟩ := text_end h1 hr
    refine Ev.if_neg (fun k => textL_nil.1 k hr) ?_
    exact plain_loop (textL a0_0 a0_1) hP a0_0 a0_1 hL (textL a0_0 a0_1).length 0 0 0 (by omega) ⟨by decide, by decide⟩ ⟨by decide, by decide⟩ (by decide) (by decide) (by decide) (by decide) (by rw [List.drop_zero]; exact hE)
  · refine Ev.if_pos (textL_nil.2 hr) (Ev.if_pos rfl (Ev.bind (right_ev' _ _ h1 h2) (Ev.const fun k => ?_)))
    rw [decide_eq_false hr]
    rfl
end Go.Proofs.YtnpkjakkjfjikaaDoor.Pure
