/- The law NumberForms over what the printed functions compute. -/
import Derived.Test.YtbbonbhammfpjaaDoorAll19
import Derived.Test.YtbbonbhammfpjaaDoorN12s
namespace Go.Proofs.YtbbonbhammfpjaaDoor.Pure
open Go.RowKit Go.Proofs.YtbbonbhammfpjaaDoorW.PrintWords Go.Proofs.YtbbonbhammfpjaaDoor.All Go.Proofs.YtbbonbhammfpjaaDoor.Dm Go.Proofs.YtbbonbhammfpjaaDoor.Ba Go.Proofs.YtbbonbhammfpjaaDoor.De Go.Proofs.YtbbonbhammfpjaaDoor.Nu Go.Proofs.YtbbonbhammfpjaaDoor.NuP Go.Lib

/-- A piece that stands alone. -/
theorem read_alone {t : List UInt8} {x : Int × Int} (h : Nu.Good t x) : readL t = some ([x], []) := by
  have := readL_one h [] rfl rfl
  rwa [List.append_nil] at this
theorem numL_zero_ahead {n : Int} (h : I n) {l : List UInt8} (hl : numL n = 48 :: l) : l = [] := by
  have h1 : n = 0 := by
    have h2 : ¬ n < 0 := fun k => by unfold numL at hl; rw [if_pos k] at hl; simp at hl
    by_cases h0 : n = 0
    · exact h0
    · exfalso
      have hlen : (numL n).length = nDigits n.natAbs := by unfold numL; rw [if_neg h2, decDigits_length]
      have hd : decDigits n.natAbs = 48 :: l := by unfold numL at hl; rwa [if_neg h2] at hl
      have h3 := ofDigits_decDigits n.natAbs
      rw [hd, ofDigits_cons] at h3
      have h4 := ofDigits_lt l (fun c hc => decDigits_dig n.natAbs c (by rw [hd]; exact List.mem_cons_of_mem _ hc))
      have h5 := pow_nDigits_le n.natAbs (by omega)
      have h6 : nDigits n.natAbs = l.length + 1 := by rw [← hlen, hl]; rfl
      rw [h6, Nat.add_sub_cancel] at h5
      simp only [show (48 : UInt8).toNat = 48 from rfl, Nat.sub_self, Nat.zero_mul, Nat.zero_add] at h3
      omega
  subst h1
  have e : numL 0 = [48] := by decide +kernel
  rw [e] at hl
  simpa using hl.symm
theorem no_nought (n : Int) (_h : I n) : (readN (48 :: numL n)).2.2 = false := by
  rcases readN_or (48 :: numL n) with h1 | ⟨m, e, h1⟩
  · exact h1
  · exfalso
    have hne := numL_ne_nil n
    obtain ⟨hr, im, h2⟩ := readN_true h1
    rcases h2 with h2 | ⟨_, v, hv, h3, _⟩
    · unfold textL at h2
      rw [if_pos hr] at h2
      by_cases he : e = 0
      · rw [if_pos he] at h2
        exact hne (numL_zero_ahead im h2)
      · rw [if_neg he] at h2
        cases hm : numL m with
        | nil => exact numL_ne_nil m hm
        | cons c l =>
          rw [hm] at h2
          simp only [List.cons_append, List.cons.injEq] at h2
          obtain ⟨rfl, h2⟩ := h2
          have := numL_zero_ahead im hm
          subst this
          have h3 : (69 : UInt8) ∈ numL n := by rw [← h2]; simp
          exact numL_no_E n h3
    · exact hne (numL_zero_ahead hv h3)
theorem NumberForms (a0 : Int) (h0 : I a0) : ∃ k, decklelaw12_NumberForms_t.f k a0 = some true := by
  refine Ev.rounds (g := fun k => decklelaw12_NumberForms_t.f k a0) ?_
  obtain ⟨m, e, hN, hr, hv, b0, b1⟩ := of_val a0 h0.1 h0.2
  have ho := of_ev a0 h0
  rw [hN] at ho
  have im : I m := by
    have hp := pow_ge e.toNat
    generalize (10 : Int) ^ e.toNat = p at hv hp
    unfold I at h0 ⊢
    rcases Int.le_total 0 m with k | k
    · have : m * 1 ≤ m * p := Int.mul_le_mul_of_nonneg_left hp k
      omega
    · have : m * p ≤ m * 1 := Int.mul_le_mul_of_nonpos_left k hp
      omega
  have ie : I e := isRight_I hr
  have hI := Ints_ev [a0] (by simpa using h0) (by simp)
  have eI : intsL [a0] = numL a0 := by unfold intsL; rw [List.map_cons, List.map_nil, Nu.join_one]
  rw [eI] at hI
  have hl := numL_len h0
  have ht := textL_len im ie
  have g1 := good_num a0 h0
  rw [hN] at g1
  have r1 := Read_ev (numL a0) (by omega)
  rw [read_alone g1] at r1
  have r2 := Read_ev (textL m e) (by omega)
  rw [read_alone (good_text m e hr im)] at r2
  have r3 := Read_ev (48 :: numL a0) (by rw [List.length_cons]; omega)
  have hp3 : (48 :: numL a0).take (pieces (48 :: numL a0)) = 48 :: numL a0 := by
    rw [pieces_dig (by decide), pieces_numL, Nat.add_comm, List.take_succ_cons, List.take_length]
  rw [readL_none (by rw [hp3]; exact no_nought a0 h0)] at r3
  unfold decklelaw12_NumberForms_t.f
  refine Ev.bind small_ev (Ev.bind ho (Ev.bind hI (Ev.bind r1 (Ev.bind (text_ev m e im ie) (Ev.bind r2 (Ev.bind hI (Ev.if_pos (by rw [ba_size]; omega) ?_)))))))
  rw [show (⟨#[48]⟩ : ByteArray) ++ ba (numL a0) = ba (48 :: numL a0) from ba_append [48] _]
  refine Ev.bind r3 (Ev.if_pos rfl (Ev.if_pos rfl (Ev.if_pos rfl (Ev.if_neg (by decide) (Ev.if_pos rfl (Ev.if_pos rfl (Ev.if_pos (show (0 : Int) < 1 by decide) (Ev.if_pos ?_ (Ev.if_pos (show (0 : Int) < 1 by decide) (Ev.const fun k => ?_))))))))))
  · show ((m == m) && (e == e)) = true
    simp
  · show some ((m == m) && (e == e)) = some true
    simp
end Go.Proofs.YtbbonbhammfpjaaDoor.Pure
