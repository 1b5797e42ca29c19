/- What the laws lean on, part 8: texts of this claim, merged and cut to what is used. -/
import Derived.Test.YtfdeheodjkpkkaaGreatDoorP18HkT
import Derived.Test.YtfdeheodjkpkkaaGreatDoorP187
import Derived.Test.YtfdeheodjkpkkaaGreatDoorP181
set_option linter.unusedVariables false
set_option linter.unusedSimpArgs false
set_option linter.unusedSectionVars false
namespace Go.Proofs.YtfdeheodjkpkkaaGreatDoor.V
open Go Go.RowKit Go.Proofs Go.Proofs.Ev Go.Proofs.YtfdeheodjkpkkaaGreatDoor Go.Proofs.YtfdeheodjkpkkaaGreatDoor.Sp Go.Proofs.YtfdeheodjkpkkaaGreatDoor.Ba Go.Proofs.YtfdeheodjkpkkaaGreatDoorW.PrintWords
set_option maxHeartbeats 4000000
set_option maxRecDepth 100000
set_option linter.unusedSimpArgs false
set_option linter.unusedVariables false
set_option linter.unusedSectionVars false
theorem rel_hdr {c : Cx} {h : Sp.Hd} {u : Value} (hr : RelV c (.agg (eH h)) u) (hn : h.locals.length ≤ 9223372036854775807) : ∃ A cap, u = .agg #[.string h.result, .string h.left, .string h.name, .string h.right, .string h.f, .string h.g, .slice A h.locals.length cap] ∧ Kd.string.C c.w A h.locals.length h.locals := by
  generalize hv : PV.agg (eH h) = v at hr
  cases hr with
  | agg cs us hl h1 =>
    injection hv with hv
    subst hv
    have hlen : us.length = 7 := hl.symm
    match us, hlen with
    | [u0, u1, u2, u3, u4, u5, u6], _ =>
      have k0 := h1 0 _ _ rfl rfl
      have k1 := h1 1 _ _ rfl rfl
      have k2 := h1 2 _ _ rfl rfl
      have k3 := h1 3 _ _ rfl rfl
      have k4 := h1 4 _ _ rfl rfl
      have k5 := h1 5 _ _ rfl rfl
      obtain ⟨A, cap, rfl, hC⟩ := rel_strs (h1 6 _ _ rfl rfl) hn
      cases k0
      cases k1
      cases k2
      cases k3
      cases k4
      cases k5
      exact ⟨A, cap, rfl, hC⟩
  | _ => cases hv
theorem text_den (h : Sp.Hd) (hw : wfH h) (hsum : h.result.size + h.left.size + h.name.size + h.right.size + h.f.size + h.g.size + h.locals.foldl (fun n s => n + s.size + 1) 0 ≤ 100000000000000) : Den Tryz.prog 159 [.agg (eH h)] [] (.str (textH h)) [] [] := by
  refine den_of_any2 (v := .string (textH h)) rfl (fun c us hT hlen hargs => ?_)
  match us, hlen with
  | [u], _ =>
    have hr := hargs 0 _ _ rfl rfl
    obtain ⟨A, cap, rfl, hC⟩ := rel_hdr hr (by have := hw.n; omega)
    refine All.text_any h A cap c.w hC (by have := hw.n; omega) hsum (fun W hb => ?_)
    have hrW := agg_later hr rfl hb
    refine calls_of_den (w := W) (right_hdr h hw) rfl rfl (fun i x u hx hu => ?_) (fun w' hk => hT w' (fun k hk' => (hk k (Nat.lt_of_lt_of_le hk' hb.size)).trans (hb.block k hk')))
    cases i with
    | zero => cases hx; cases hu; exact hrW
    | succ i => simp at hx
end Go.Proofs.YtfdeheodjkpkkaaGreatDoor.V
namespace Go.Proofs.YtfdeheodjkpkkaaGreatDoor.V
open Go Go.RowKit Go.Proofs Go.Proofs.Ev Go.Proofs.YtfdeheodjkpkkaaGreatDoor Go.Proofs.YtfdeheodjkpkkaaGreatDoor.Sp Go.Proofs.YtfdeheodjkpkkaaGreatDoor.Ba Go.Proofs.YtfdeheodjkpkkaaGreatDoorW.PrintWords
set_option maxHeartbeats 4000000
set_option maxRecDepth 100000
set_option linter.unusedSimpArgs false
set_option linter.unusedVariables false
set_option linter.unusedSectionVars false
theorem cutP_f {l t : ByteArray} (h : (cutP l t).2 = false) : (cutP l t).1 = l := by
  unfold cutP Lib.trimPrefix at *
  simp only at h ⊢
  rw [if_neg (by simp [h])]
abbrev tGO : ByteArray := ⟨#[32, 40]⟩
theorem gapOpen : tGap ++ tOpen = tGO := by
  apply Ba.data_inj
  simp
theorem operB_le (l : ByteArray) (h : Sp.Hd) : (operB l h).2.size ≤ l.size := by
  have a1 := takeN_le l
  have a2 := cutP_le (takeN l).2 tGap
  have a3 := takeN_le (cutP (takeN l).2 tGap).1
  have a4 := cutP_le (takeN (cutP (takeN l).2 tGap).1).2 tGap
  have a5 := takeN_le (cutP (takeN (cutP (takeN l).2 tGap).1).2 tGap).1
  unfold operB
  simp only
  refine Nat.le_trans (cutP_le _ _) ?_
  split <;> omega
/-- The rest of what stands ahead, once the result is taken. -/
def F1 (res first l : ByteArray) : Sp.Hd × ByteArray :=
  if seq first e0 = true ∧ (cutP l tOpen).2 = true then operB (cutP l tOpen).1 ⟨res, e0, e0, e0, e0, e0, []⟩
  else if (cutP l tGO).2 = true then operB (cutP l tGO).1 ⟨res, first, e0, e0, e0, e0, []⟩
  else (⟨res, e0, first, e0, e0, e0, []⟩, l)
theorem F1_le (res first l : ByteArray) : (F1 res first l).2.size ≤ l.size := by
  unfold F1
  split
  · exact Nat.le_trans (operB_le _ _) (cutP_le _ _)
  · split
    · exact Nat.le_trans (operB_le _ _) (cutP_le _ _)
    · exact Nat.le_refl _
theorem head1_eq (s : ByteArray) : head1 s = F1 (if (cutP (takeN s).2 tGets).2 = true then (takeN s).1 else e0) (if (cutP (takeN s).2 tGets).2 = true then (takeN (cutP (takeN s).2 tGets).1).1 else (takeN s).1) (if (cutP (takeN s).2 tGets).2 = true then (takeN (cutP (takeN s).2 tGets).1).2 else (cutP (takeN s).2 tGets).1) := by
  unfold head1 F1
  rw [gapOpen]
/-- The second word behind, once the first is taken. -/
def F2 (h : Sp.Hd) (l : ByteArray) : Sp.Hd × ByteArray :=
  if seq h.f e0 = true then (if (cutP l tGap).2 = true then (⟨h.result, h.name, h.right, (takeN (cutP l tGap).1).1, h.f, h.g, h.locals⟩, (takeN (cutP l tGap).1).2) else (h, (cutP l tGap).1)) else (h, l)
theorem head2_eq (p : Sp.Hd × ByteArray) : head2 p = F2 (if (cutP p.2 tGap).2 = true then ⟨p.1.result, p.1.left, p.1.name, (takeN (cutP p.2 tGap).1).1, p.1.f, p.1.g, p.1.locals⟩ else p.1) (if (cutP p.2 tGap).2 = true then (takeN (cutP p.2 tGap).1).2 else (cutP p.2 tGap).1) := rfl
/-- The walk's state: what is left, the header so far. -/
def PS (s l : ByteArray) (h : Sp.Hd) (τ : St) : Prop := ∃ v2 v4 v9, τ.t 0 = .str s ∧ τ.t 2 = .ptr (.loc 2 0) v2 0 0 ∧ τ.m (.loc 2 0) = ⟨v2, some (.rows false 112 7 [[.str e0, .str e0, .str e0, .str e0, .str e0, .str e0, .nils]])⟩ ∧ τ.t 4 = .ptr (.loc 4 0) v4 0 0 ∧ τ.m (.loc 4 0) = ⟨v4, some (hdC h .nils)⟩ ∧ τ.t 5 = .ptr (.loc 9 0) v9 0 0 ∧ τ.m (.loc 9 0) = ⟨v9, some (prC l)⟩
theorem cutP_lt {l t : ByteArray} (h : (cutP l t).2 = true) : (cutP l t).1.size + t.size ≤ l.size := by
  unfold cutP Lib.trimPrefix at *
  simp only at h ⊢
  rw [if_pos h]
  have hp : t.data.toList.length ≤ l.data.toList.length := by
    unfold Lib.hasPrefix at h
    exact (List.isPrefixOf_iff_prefix.1 h).length_le
  rw [← Ba.size_data, ← Ba.size_data] at hp
  show (Ba.ba (List.drop t.data.toList.length l.data.toList)).size + t.size ≤ l.size
  rw [Ba.ba_size, List.length_drop, ← Ba.size_data, ← Ba.size_data]
  omega
theorem takeGo_sum (s : ByteArray) : ∀ (f p : Nat), (takeGo s f p).1.size + (takeGo s f p).2.size ≤ s.size
  | 0, p => Nat.le_refl _
  | f + 1, p => by
    unfold takeGo
    split
    · split
      · show 0 + s.size ≤ s.size
        omega
      · split
        · simp only [ByteArray.size_extract]; omega
        · exact takeGo_sum s f _
    · exact Nat.le_refl _
theorem takeN_sum (s : ByteArray) : (takeN s).1.size + (takeN s).2.size ≤ s.size := takeGo_sum s _ _
/-- The signs of a row of texts, and one for each. -/
def szL (l : List ByteArray) : Nat := l.foldl (fun n s => n + s.size + 1) 0
theorem szL_snoc (l : List ByteArray) (x : ByteArray) : szL (l ++ [x]) = szL l + x.size + 1 := by
  unfold szL
  rw [List.foldl_append]
  rfl
theorem szL_cons (x : ByteArray) (l : List ByteArray) : szL (x :: l) = x.size + 1 + szL l := by
  unfold szL
  rw [List.foldl_cons, All.sz_fold]
  omega
theorem szL_mem : ∀ (l : List ByteArray) (x : ByteArray), x ∈ l → x.size ≤ szL l
  | y :: l, x, h => by
    rw [szL_cons]
    rcases List.mem_cons.1 h with rfl | h
    · omega
    · have := szL_mem l x h
      omega
theorem szL_len : ∀ l : List ByteArray, l.length ≤ szL l
  | [] => Nat.le_refl _
  | x :: l => by
    have := szL_len l
    rw [szL_cons, List.length_cons]
    omega
/-- A header's six texts are no longer. -/
structure Hb (h : Sp.Hd) (n : Nat) : Prop where
  r : h.result.size ≤ n
  l : h.left.size ≤ n
  nm : h.name.size ≤ n
  rt : h.right.size ≤ n
  f : h.f.size ≤ n
  g : h.g.size ≤ n
theorem operB_hb {l : ByteArray} {h : Sp.Hd} {n : Nat} (hh : Hb h n) (hl : l.size ≤ n) : Hb (operB l h).1 n := by
  have a1 := takeN_le l
  have a2 := cutP_le (takeN l).2 tGap
  have a3 := takeN_le (cutP (takeN l).2 tGap).1
  have a4 := cutP_le (takeN (cutP (takeN l).2 tGap).1).2 tGap
  have a5 := takeN_le (cutP (takeN (cutP (takeN l).2 tGap).1).2 tGap).1
  unfold operB
  simp only
  refine ⟨hh.r, hh.l, by simp only; omega, hh.rt, by simp only; omega, ?_⟩
  simp only
  have := hh.g
  split <;> omega
theorem F1_hb {res first l : ByteArray} {n : Nat} (h1 : res.size ≤ n) (h2 : first.size ≤ n) (h3 : l.size ≤ n) : Hb (F1 res first l).1 n := by
  have z : e0.size ≤ n := Nat.zero_le _
  unfold F1
  split
  · exact operB_hb ⟨h1, z, z, z, z, z⟩ (Nat.le_trans (cutP_le _ _) h3)
  · split
    · exact operB_hb ⟨h1, h2, z, z, z, z⟩ (Nat.le_trans (cutP_le _ _) h3)
    · exact ⟨h1, z, h2, z, z, z⟩
theorem head1_hb (s : ByteArray) : Hb (head1 s).1 s.size ∧ (head1 s).2.size ≤ s.size := by
  rw [head1_eq]
  have a1 := takeN_le s
  have a2 := cutP_le (takeN s).2 tGets
  have a3 := takeN_le (cutP (takeN s).2 tGets).1
  have z : e0.size = 0 := rfl
  refine ⟨F1_hb ?_ ?_ ?_, Nat.le_trans (F1_le _ _ _) ?_⟩ <;> split <;> omega
theorem head2_hb {p : Sp.Hd × ByteArray} {n : Nat} (hh : Hb p.1 n) (hl : p.2.size ≤ n) : Hb (head2 p).1 n := by
  rw [head2_eq]
  have a1 := cutP_le p.2 tGap
  have a2 := takeN_le (cutP p.2 tGap).1
  have key : ∀ (h : Sp.Hd) (l : ByteArray), Hb h n → l.size ≤ n → Hb (F2 h l).1 n := by
    intro h l hh hl
    have b1 := cutP_le l tGap
    have b2 := takeN_le (cutP l tGap).1
    unfold F2
    split
    · split
      · exact ⟨hh.r, hh.nm, hh.rt, by simp only; omega, hh.f, hh.g⟩
      · exact hh
    · exact hh
  refine key _ _ ?_ ?_
  · split
    · exact ⟨hh.r, hh.l, hh.nm, by simp only; omega, hh.f, hh.g⟩
    · exact hh
  · split <;> omega
/-- The local names' row, as it lies: none yet, or its own. -/
def XL (σ : St) (X : PV) (acc : List ByteArray) : Prop := (X = .nils ∧ acc = []) ∨ ∃ v, X = .own (.loc 64 0) v acc.length ∧ σ.m (.loc 64 0) = ⟨v, some (.rows true 9 1 (acc.map eS))⟩
theorem parse_den (s : ByteArray) (hs : s.size ≤ 1000000000000) : Den Tryz.prog 100 [.str s] [] (.tup [.agg (eH (parseH s).1), .bool (parseH s).2]) [] [] := by
  have hH1 := head1_eq s
  have w1 := word_den s (by omega)
  have l1 := takeN_le s
  generalize takeN s = T1 at *
  have s1 := skip_den T1.2 tGets
  have c1 := cutP_le T1.2 tGets
  generalize cutP T1.2 tGets = C1 at *
  have w2 := word_den C1.1 (by omega)
  have l2 := takeN_le C1.1
  generalize takeN C1.1 = T2 at *
  generalize hR : parseH s = R at *
  replace hR := Asd.mk hR
  replace hH1 := Asd.mk hH1
  (refine den_walk mix Tryz.func100 rfl (by kernel_rfl) rfl [.cell 2 112, .tmp 3] rfl (by simp) ?_; simp only [bodyOf, Tryz.f100])
  (repeat refine stp ?_)
  (refine RP (.loc 9 0) (w1) ?_)
  (repeat refine stp ?_)
  (refine RP (.loc 9 0) (s1) ?_)
  (repeat refine stp ?_)
  refine Run_mid 1 (fun τ => ∃ res first l, PS s l ⟨res, e0, e0, e0, e0, e0, []⟩ τ ∧ τ.t 6 = .str first ∧ head1 s = F1 res first l ∧ l.size ≤ s.size) ?_ ?_
  · simp only [List.take_succ_cons, List.take_zero, List.drop_succ_cons, List.drop_zero, List.cons_append, List.nil_append]
    have hH1 := hH1.out
    cases hb : C1.2 with
    | true =>
      rw [hb] at hH1
      simp only [if_true] at hH1
      replace hH1 := Asd.mk hH1
      (repeat refine stp ?_)
      (refine RP (.loc 9 0) (w2) ?_)
      (repeat refine stp ?_)
      exact ⟨T1.1, T2.1, T2.2, ⟨_, _, _, rd, rd, rdm, rd, rdm, rd, rdm⟩, rd, hH1.out, by omega⟩
    | false =>
      rw [hb] at hH1
      simp only [Bool.false_eq_true, if_false] at hH1
      replace hH1 := Asd.mk hH1
      (repeat refine stp ?_)
      exact ⟨e0, T1.1, C1.1, ⟨_, _, _, rd, rd, rdm, rd, rdm, rd, rdm⟩, rd, hH1.out, by omega⟩
  · simp only [List.drop_succ_cons, List.drop_zero]
    clear hH1 w1 l1 s1 c1 w2 l2
    rintro τ ⟨res, first, l, ⟨v2, v4, v9, h0, h2, m2, h4, m4, h5, m5⟩, h6, hH1, hll⟩
    have sO := skip_den l tOpen
    have sG := skip_den l tGO
    have cO := cutP_le l tOpen
    have cG := cutP_le l tGO
    refine S1 ?_
    refine Run_mid 1 (fun τ => PS s (head1 s).2 (head1 s).1 τ) ?_ ?_
    · simp only [List.take_succ_cons, List.take_zero, List.drop_succ_cons, List.drop_zero, List.cons_append, List.nil_append]
      cases hb1 : seq first e0 with
      | true =>
        cases hb2 : (cutP l tOpen).2 with
        | true =>
          have hq : head1 s = operB (cutP l tOpen).1 ⟨res, e0, e0, e0, e0, e0, []⟩ := by rw [hH1]; unfold F1; rw [if_pos ⟨hb1, hb2⟩]
          replace hq := Asd.mk hq
          have oO := oper_den (cutP l tOpen).1 ⟨res, e0, e0, e0, e0, e0, []⟩ (by omega)
          rw [hb2] at sO
          replace hH1 := Asd.mk hH1
          (repeat refine stp ?_)
          (refine RP (.loc 9 0) (sO) ?_)
          (repeat refine stp ?_)
          (refine RP2 (.loc 9 0) (.loc 4 0) (oO) ?_)
          (repeat refine stp ?_)
          rw [hq.out]
          exact ⟨_, _, _, rd, rd, rdm, rd, rdm, rd, rdm⟩
        | false =>
          have hco := cutP_f hb2
          rw [hb2, hco] at sO
          have HN : ¬ (seq first e0 = true ∧ (cutP l tOpen).2 = true) := by simp [hb2]
          cases hb3 : (cutP l tGO).2 with
          | true =>
            have hq : head1 s = operB (cutP l tGO).1 ⟨res, first, e0, e0, e0, e0, []⟩ := by rw [hH1]; unfold F1; rw [if_neg HN, if_pos hb3]
            replace hq := Asd.mk hq
            have oG := oper_den (cutP l tGO).1 ⟨res, first, e0, e0, e0, e0, []⟩ (by omega)
            rw [hb3] at sG
            replace hH1 := Asd.mk hH1
            (repeat refine stp ?_)
            (refine RP (.loc 9 0) (sO) ?_)
            (repeat refine stp ?_)
            (refine RP (.loc 9 0) (sG) ?_)
            (repeat refine stp ?_)
            (refine RP2 (.loc 9 0) (.loc 4 0) (oG) ?_)
            (repeat refine stp ?_)
            rw [hq.out]
            exact ⟨_, _, _, rd, rd, rdm, rd, rdm, rd, rdm⟩
          | false =>
            have hq : head1 s = (⟨res, e0, first, e0, e0, e0, []⟩, l) := by rw [hH1]; unfold F1; rw [if_neg HN, if_neg (by simp [hb3])]
            replace hq := Asd.mk hq
            have hcf := cutP_f hb3
            rw [hb3, hcf] at sG
            replace hH1 := Asd.mk hH1
            (repeat refine stp ?_)
            (refine RP (.loc 9 0) (sO) ?_)
            (repeat refine stp ?_)
            (refine RP (.loc 9 0) (sG) ?_)
            (repeat refine stp ?_)
            rw [hq.out]
            exact ⟨_, _, _, rd, rd, rdm, rd, rdm, rd, rdm⟩
      | false =>
        have HN : ¬ (seq first e0 = true ∧ (cutP l tOpen).2 = true) := by simp [hb1]
        cases hb3 : (cutP l tGO).2 with
        | true =>
          have hq : head1 s = operB (cutP l tGO).1 ⟨res, first, e0, e0, e0, e0, []⟩ := by rw [hH1]; unfold F1; rw [if_neg HN, if_pos hb3]
          replace hq := Asd.mk hq
          have oG := oper_den (cutP l tGO).1 ⟨res, first, e0, e0, e0, e0, []⟩ (by omega)
          rw [hb3] at sG
          replace hH1 := Asd.mk hH1
          (repeat refine stp ?_)
          (refine RP (.loc 9 0) (sG) ?_)
          (repeat refine stp ?_)
          (refine RP2 (.loc 9 0) (.loc 4 0) (oG) ?_)
          (repeat refine stp ?_)
          rw [hq.out]
          exact ⟨_, _, _, rd, rd, rdm, rd, rdm, rd, rdm⟩
        | false =>
          have hq : head1 s = (⟨res, e0, first, e0, e0, e0, []⟩, l) := by rw [hH1]; unfold F1; rw [if_neg HN, if_neg (by simp [hb3])]
          replace hq := Asd.mk hq
          have hcf := cutP_f hb3
          rw [hb3, hcf] at sG
          replace hH1 := Asd.mk hH1
          (repeat refine stp ?_)
          (refine RP (.loc 9 0) (sG) ?_)
          (repeat refine stp ?_)
          rw [hq.out]
          exact ⟨_, _, _, rd, rd, rdm, rd, rdm, rd, rdm⟩
    · simp only [List.drop_succ_cons, List.drop_zero]
      have hl1 : (head1 s).2.size ≤ s.size := by rw [hH1]; exact Nat.le_trans (F1_le _ _ _) hll
      clear sO sG cO cG hH1 h0 h2 m2 h4 m4 h5 m5 h6
      generalize hP : head1 s = p at *
      rintro τ ⟨v2, v4, v9, h0, h2, m2, h4, m4, h5, m5⟩
      have sP := skip_den p.2 tGap
      have cP := cutP_le p.2 tGap
      have wP := word_den (cutP p.2 tGap).1 (by omega)
      have lP := takeN_le (cutP p.2 tGap).1
      have hH2 := head2_eq p
      refine S1 ?_
      refine Run_mid 1 (fun τ => ∃ h l, PS s l h τ ∧ head2 p = F2 h l ∧ l.size ≤ s.size) ?_ ?_
      · simp only [List.take_succ_cons, List.take_zero, List.drop_succ_cons, List.drop_zero, List.cons_append, List.nil_append]
        generalize hCP : cutP p.2 tGap = CP1 at *
        generalize takeN CP1.1 = TP at *
        cases hb : CP1.2 with
        | true =>
          rw [hb] at hH2 sP
          simp only [if_true] at hH2
          replace hH2 := Asd.mk hH2
          clear hCP hP
          (repeat refine stp ?_)
          (refine RP (.loc 9 0) (sP) ?_)
          (repeat refine stp ?_)
          (refine RP (.loc 9 0) (wP) ?_)
          (repeat refine stp ?_)
          exact ⟨_, _, ⟨_, _, _, rd, rd, rdm, rd, rdm, rd, rdm⟩, hH2.out, by omega⟩
        | false =>
          rw [hb] at hH2 sP
          simp only [Bool.false_eq_true, if_false] at hH2
          replace hH2 := Asd.mk hH2
          clear hCP hP
          (repeat refine stp ?_)
          (refine RP (.loc 9 0) (sP) ?_)
          (repeat refine stp ?_)
          exact ⟨_, _, ⟨_, _, _, rd, rd, rdm, rd, rdm, rd, rdm⟩, hH2.out, by omega⟩
      · simp only [List.drop_succ_cons, List.drop_zero]
        clear sP cP wP lP hH2 h0 h2 m2 h4 m4 h5 m5
        rintro τ ⟨h, l, ⟨v2, v4, v9, h0, h2, m2, h4, m4, h5, m5⟩, hH2, hll⟩
        have sQ := skip_den l tGap
        have cQ := cutP_le l tGap
        have wQ := word_den (cutP l tGap).1 (by omega)
        have lQ := takeN_le (cutP l tGap).1
        refine S1 ?_
        refine Run_mid 1 (fun τ => PS s (head2 p).2 (head2 p).1 τ) ?_ ?_
        · simp only [List.take_succ_cons, List.take_zero, List.drop_succ_cons, List.drop_zero, List.cons_append, List.nil_append]
          cases hb1 : seq h.f e0 with
          | false =>
            have hq : head2 p = (h, l) := by rw [hH2]; unfold F2; rw [if_neg (by simp [hb1])]
            replace hq := Asd.mk hq
            replace hH2 := Asd.mk hH2
            clear sQ wQ hP
            (repeat refine stp ?_)
            rw [hq.out]
            exact ⟨_, _, _, rd, rd, rdm, rd, rdm, rd, rdm⟩
          | true =>
            cases hb2 : (cutP l tGap).2 with
            | false =>
              have hq : head2 p = (h, (cutP l tGap).1) := by rw [hH2]; unfold F2; rw [if_pos hb1, if_neg (by simp [hb2])]
              replace hq := Asd.mk hq
              replace hH2 := Asd.mk hH2
              rw [hb2] at sQ
              clear wQ hP
              (repeat refine stp ?_)
              (refine RP (.loc 9 0) (sQ) ?_)
              (repeat refine stp ?_)
              rw [hq.out]
              exact ⟨_, _, _, rd, rd, rdm, rd, rdm, rd, rdm⟩
            | true =>
              have hq : head2 p = (⟨h.result, h.name, h.right, (takeN (cutP l tGap).1).1, h.f, h.g, h.locals⟩, (takeN (cutP l tGap).1).2) := by rw [hH2]; unfold F2; rw [if_pos hb1, if_pos hb2]
              replace hq := Asd.mk hq
              replace hH2 := Asd.mk hH2
              rw [hb2] at sQ
              clear hP
              (repeat refine stp ?_)
              (refine RP (.loc 9 0) (sQ) ?_)
              (repeat refine stp ?_)
              (refine DP (.loc 9 0) (wQ) ?_)
              (repeat refine stp ?_)
              rw [hq.out]
              exact ⟨_, _, _, rd, rd, rdm, rd, rdm, rd, rdm⟩
        · simp only [List.drop_succ_cons, List.drop_zero]
          have hl2 : (head2 p).2.size ≤ s.size := by
            rw [hH2]
            unfold F2
            split
            · split
              · simp only; omega
              · simp only; omega
            · exact hll
          clear sQ cQ wQ lQ hH2 h0 h2 m2 h4 m4 h5 m5
          generalize hP2 : head2 p = q at *
          rintro τ ⟨v2, v4, v9, h0, h2, m2, h4, m4, h5, m5⟩
          have hb1 := head1_hb s
          rw [hP] at hb1
          have hb2 := head2_hb hb1.1 hb1.2
          rw [hP2] at hb2
          have hH3 : head3 s = (⟨q.1.result, q.1.left, q.1.name, q.1.right, q.1.f, q.1.g, (localsB (q.2.size + 1) q.2 []).1⟩, (localsB (q.2.size + 1) q.2 []).2) := by unfold head3; rw [hP, hP2]
          clear hb1 hP hP2 hl1
          (repeat refine stp ?_)
          refine Run_loop (fun m σ => ∃ (l : ByteArray) (acc : List ByteArray) (X : PV) (v2 v4 v9 : Nat), σ.t 0 = .str s ∧ σ.t 2 = .ptr (.loc 2 0) v2 0 0 ∧ σ.m (.loc 2 0) = ⟨v2, some (.rows false 112 7 [[.str e0, .str e0, .str e0, .str e0, .str e0, .str e0, .nils]])⟩ ∧ σ.t 4 = .ptr (.loc 4 0) v4 0 0 ∧ σ.m (.loc 4 0) = ⟨v4, some (hdC q.1 X)⟩ ∧ σ.t 5 = .ptr (.loc 9 0) v9 0 0 ∧ σ.m (.loc 9 0) = ⟨v9, some (prC l)⟩ ∧ XL σ X acc ∧
            localsB m l acc = localsB (q.2.size + 1) q.2 [] ∧ l.size < m ∧ szL acc + l.size ≤ s.size) (q.2.size + 1) ?_ ?_
          · exact ⟨q.2, [], .nils, v2, v4, v9, rd, rd, rdm, rd, rdm, rd, rdm, .inl ⟨rfl, rfl⟩, rfl, by omega, by (show 0 + q.2.size ≤ s.size); omega⟩
          clear h0 h2 m2 h4 m4 h5 m5
          rintro m σ ⟨l, acc, X, v2, v4, v9, h0, h2, m2, h4, m4, h5, m5, hX, hr, hm, hz⟩
          generalize localsB (q.2.size + 1) q.2 [] = L at *
          have sL := skip_den l tLocal
          have cL := cutP_le l tLocal
          have wL := word_den (cutP l tLocal).1 (by omega)
          have tL := takeN_sum (cutP l tLocal).1
          have hlen := szL_len acc
          cases hb : (cutP l tLocal).2 with
          | true =>
            have cLt := cutP_lt hb
            have z1 : tLocal.size = 1 := rfl
            obtain ⟨f, rfl⟩ : ∃ f, m = f + 1 := ⟨m - 1, by omega⟩
            rw [localsB, if_pos hb] at hr
            rw [hb] at sL
            have hsz : szL (acc ++ [(takeN (cutP l tLocal).1).1]) + (takeN (cutP l tLocal).1).2.size ≤ s.size := by rw [szL_snoc]; omega
            have hfu : (takeN (cutP l tLocal).1).2.size < f := by omega
            generalize cutP l tLocal = CL at *
            generalize takeN CL.1 = TL at *
            replace hr := Asd.mk hr
            replace hH3 := Asd.mk hH3
            replace hsz := Asd.mk hsz
            replace hfu := Asd.mk hfu
            have htk := take_allm eS acc
            have hal : (acc.length + 1) * 16 ≤ 140737488355328 := by omega
            clear hz cL tL cLt z1 hb hlen
            rcases hX with ⟨rfl, rfl⟩ | ⟨vx, rfl, mx⟩
            · (repeat refine stp ?_)
              (refine RP (.loc 9 0) (sL) ?_)
              (repeat refine stp ?_)
              (refine DP (.loc 9 0) (wL) ?_)
              (repeat refine stp ?_)
              exact ⟨f, by omega, TL.2, [TL.1], _, v2, v4, v9, rd, rd, rdm, rd, rdm, rd, rdm, .inr ⟨_, rfl, rdm⟩, hr.out, hfu.out, hsz.out⟩
            · (repeat refine stp ?_)
              (refine RP (.loc 9 0) (sL) ?_)
              (repeat refine stp ?_)
              (refine DP (.loc 9 0) (wL) ?_)
              (repeat refine stp ?_)
              exact ⟨f, by omega, TL.2, acc ++ [TL.1], _, v2, v4, v9, rd, rd, rdm, rd, rdm, rd, rdm, .inr ⟨vx + 1, (by rw [List.length_append]; rfl), (by rw [List.map_append]; exact rdm)⟩, hr.out, hfu.out, hsz.out⟩
          | false =>
            obtain ⟨f, rfl⟩ : ∃ f, m = f + 1 := ⟨m - 1, by omega⟩
            have hcf := cutP_f hb
            rw [localsB, if_neg (by simp [hb]), hcf] at hr
            rw [hb, hcf] at sL
            rw [← hr] at hH3
            have hlm := szL_mem acc
            obtain ⟨b1, b2, b3, b4, b5, b6⟩ := hb2
            have hTx := text_den ⟨q.1.result, q.1.left, q.1.name, q.1.right, q.1.f, q.1.g, acc⟩ ⟨by simp only; omega, (by
              intro x hx
              simp only [allH, List.cons_append, List.nil_append, List.mem_cons] at hx
              rcases hx with rfl | rfl | rfl | rfl | rfl | rfl | hx
              · omega
              · omega
              · omega
              · omega
              · omega
              · omega
              · have := hlm x hx; omega)⟩ (by
              simp only
              have e : acc.foldl (fun n s => n + s.size + 1) 0 = szL acc := rfl
              rw [e]
              omega)
            have hR := hR.out
            unfold parseH at hR
            rw [hH3] at hR
            simp only at hR
            have htk := take_allm eS acc
            clear hr hH3 hlm b1 b2 b3 b4 b5 b6 hz hlen cL tL wL hcf hm hb
            cases ha : seq l e0 with
            | false =>
              rw [if_pos ha] at hR
              rw [← hR]
              clear hR hTx
              (repeat refine stp ?_)
              (refine RP (.loc 9 0) (sL) ?_)
              (repeat refine stp ?_)
              exact FE
            | true =>
              rw [if_neg (by simp [ha])] at hR
              cases hc : seq s e0 with
              | true =>
                rw [if_pos hc] at hR
                rw [← hR]
                clear hR hTx
                (repeat refine stp ?_)
                (refine RP (.loc 9 0) (sL) ?_)
                (repeat refine stp ?_)
                exact FE
              | false =>
                rw [if_neg (by simp [hc])] at hR
                generalize textH ⟨q.1.result, q.1.left, q.1.name, q.1.right, q.1.f, q.1.g, acc⟩ = TX at *
                cases hd : seq TX s with
                | false =>
                  rw [if_pos hd] at hR
                  rw [← hR]
                  clear hR
                  rcases hX with ⟨rfl, rfl⟩ | ⟨vx, rfl, mx⟩
                  · (repeat refine stp ?_)
                    (refine RP (.loc 9 0) (sL) ?_)
                    (repeat refine stp ?_)
                    (refine RCz (hTx) ?_)
                    (repeat refine stp ?_)
                    exact FE
                  · (repeat refine stp ?_)
                    (refine RP (.loc 9 0) (sL) ?_)
                    (repeat refine stp ?_)
                    refine Run_gen (fun τ => τ.t 75 = .bool false ∧ τ.t 76 = .agg [.str q.1.result, .str q.1.left, .str q.1.name, .str q.1.right, .str q.1.f, .str q.1.g, .own (.loc 64 0) vx acc.length] ∧ τ.t 0 = .str s ∧ τ.t 2 = .ptr (.loc 2 0) v2 0 0 ∧ τ.m (.loc 2 0) = ⟨v2, some (.rows false 112 7 [[.str e0, .str e0, .str e0, .str e0, .str e0, .str e0, .nils]])⟩ ∧ τ.t 4 = .ptr (.loc 4 0) v4 0 0 ∧ τ.m (.loc 4 0) = ⟨v4, some (hdC q.1 (.own (.loc 64 0) vx acc.length))⟩ ∧ τ.m (.loc 64 0) = ⟨vx, some (.rows true 9 1 (acc.map eS))⟩) ⟨rd, rd, rd, rd, rdm, rd, rdm, rdm⟩ ?_
                    clear h0 h2 m2 h4 m4 h5 m5 mx sL
                    rintro τ ⟨h75, h76, h0, h2, m2, h4, m4, mx⟩
                    refine RZ (.loc 64 0) ?_
                    (refine RC (hTx) ?_)
                    (repeat refine stp ?_)
                    exact FE
                | true =>
                  rw [if_neg (by simp [hd])] at hR
                  rw [← hR]
                  clear hR
                  rcases hX with ⟨rfl, rfl⟩ | ⟨vx, rfl, mx⟩
                  · (repeat refine stp ?_)
                    (refine RP (.loc 9 0) (sL) ?_)
                    (repeat refine stp ?_)
                    (refine RCz (hTx) ?_)
                    (repeat refine stp ?_)
                    exact FE
                  · (repeat refine stp ?_)
                    (refine RP (.loc 9 0) (sL) ?_)
                    (repeat refine stp ?_)
                    refine Run_gen (fun τ => τ.t 75 = .bool false ∧ τ.t 76 = .agg [.str q.1.result, .str q.1.left, .str q.1.name, .str q.1.right, .str q.1.f, .str q.1.g, .own (.loc 64 0) vx acc.length] ∧ τ.t 0 = .str s ∧ τ.t 2 = .ptr (.loc 2 0) v2 0 0 ∧ τ.m (.loc 2 0) = ⟨v2, some (.rows false 112 7 [[.str e0, .str e0, .str e0, .str e0, .str e0, .str e0, .nils]])⟩ ∧ τ.t 4 = .ptr (.loc 4 0) v4 0 0 ∧ τ.m (.loc 4 0) = ⟨v4, some (hdC q.1 (.own (.loc 64 0) vx acc.length))⟩ ∧ τ.m (.loc 64 0) = ⟨vx, some (.rows true 9 1 (acc.map eS))⟩) ⟨rd, rd, rd, rd, rdm, rd, rdm, rdm⟩ ?_
                    clear h0 h2 m2 h4 m4 h5 m5 mx sL
                    rintro τ ⟨h75, h76, h0, h2, m2, h4, m4, mx⟩
                    refine RZ (.loc 64 0) ?_
                    (refine RC (hTx) ?_)
                    (repeat refine stp ?_)
                    exact FE
end Go.Proofs.YtfdeheodjkpkkaaGreatDoor.V
namespace Go.Proofs.YtfdeheodjkpkkaaGreatDoor.V
open Go Go.RowKit Go.Proofs Go.Proofs.Ev Go.Proofs.YtfdeheodjkpkkaaGreatDoor Go.Proofs.YtfdeheodjkpkkaaGreatDoor.Sp Go.Proofs.YtfdeheodjkpkkaaGreatDoor.Ba Go.Proofs.YtfdeheodjkpkkaaGreatDoorW.PrintWords
set_option maxHeartbeats 4000000
set_option maxRecDepth 100000
set_option linter.unusedSimpArgs false
set_option linter.unusedVariables false
set_option linter.unusedSectionVars false
theorem localsB_sz : ∀ (f : Nat) (l : ByteArray) (acc : List ByteArray), szL (localsB f l acc).1 ≤ szL acc + l.size
  | 0, l, acc => by
    show szL acc ≤ _
    omega
  | f + 1, l, acc => by
    rw [localsB]
    split
    · rename_i h
      have h1 := cutP_lt h
      have h2 := takeN_sum (cutP l tLocal).1
      have h3 := localsB_sz f (takeN (cutP l tLocal).1).2 (acc ++ [(takeN (cutP l tLocal).1).1])
      rw [szL_snoc] at h3
      have z1 : tLocal.size = 1 := rfl
      omega
    · show szL acc ≤ _
      omega
theorem parse_wf (s : ByteArray) (hs : s.size ≤ 1000000000000) : wfH (parseH s).1 ∧ (parseH s).1.locals.length ≤ 1000000000000 := by
  have z : wfH zH := ⟨Nat.zero_le _, fun x hx => by
    simp only [allH, zH, List.cons_append, List.nil_append, List.mem_cons, List.not_mem_nil, or_false] at hx
    rcases hx with rfl | rfl | rfl | rfl | rfl | rfl <;> exact Nat.zero_le _⟩
  unfold parseH
  split
  · exact ⟨z, Nat.zero_le _⟩
  · split
    · exact ⟨z, Nat.zero_le _⟩
    · split
      · exact ⟨z, Nat.zero_le _⟩
      · have hb1 := head1_hb s
        obtain ⟨b1, b2, b3, b4, b5, b6⟩ := head2_hb hb1.1 hb1.2
        have hl2 : (head2 (head1 s)).2.size ≤ s.size := by
          rw [head2_eq]
          have a1 := cutP_le (head1 s).2 tGap
          have a2 := takeN_le (cutP (head1 s).2 tGap).1
          have h12 := hb1.2
          have key : ∀ (h : Sp.Hd) (l : ByteArray), l.size ≤ s.size → (F2 h l).2.size ≤ s.size := by
            intro h l hl
            have b1 := cutP_le l tGap
            have b2 := takeN_le (cutP l tGap).1
            unfold F2
            split
            · split
              · simp only; omega
              · simp only; omega
            · exact hl
          refine key _ _ ?_
          split <;> omega
        have hq := localsB_sz ((head2 (head1 s)).2.size + 1) (head2 (head1 s)).2 []
        have z0 : szL [] = 0 := rfl
        have hn := szL_len (localsB ((head2 (head1 s)).2.size + 1) (head2 (head1 s)).2 []).1
        have hm := szL_mem (localsB ((head2 (head1 s)).2.size + 1) (head2 (head1 s)).2 []).1
        unfold head3
        simp only
        refine ⟨⟨by first | omega | (simp only; omega), fun x hx => ?_⟩, by first | omega | (simp only; omega)⟩
        simp only [allH, List.cons_append, List.nil_append, List.mem_cons] at hx
        rcases hx with rfl | rfl | rfl | rfl | rfl | rfl | hx
        · omega
        · omega
        · omega
        · omega
        · omega
        · omega
        · have := hm x hx; omega
theorem labels_len (b : Bool) : ∀ l : List ByteArray, (labelsB b l).length ≤ l.length
  | [] => Nat.le_refl _
  | s :: l => by
    have := labels_len false l
    rw [labelsB, List.length_append, List.length_cons]
    split <;> simp <;> omega
theorem labels_mem (b : Bool) : ∀ (l : List ByteArray) (x : ByteArray), x ∈ labelsB b l → ∃ s ∈ l, x.size ≤ s.size
  | [], x, h => by cases h
  | s :: l, x, h => by
    rw [labelsB] at h
    rcases List.mem_append.1 h with h | h
    · split at h
      · simp at h
        subst h
        exact ⟨s, by simp, (takeN_le s).1⟩
      · cases h
    · obtain ⟨y, h1, h2⟩ := labels_mem false l x h
      exact ⟨y, by simp [h1], h2⟩
theorem right_fn (l : List ByteArray) (hl : l.length ≤ 1099511627000) (hs : ∀ s ∈ l, s.size ≤ 1000000000000) : Den Tryz.prog 47 [.ro (l.map eS)] [] (.bool (rightFn l)) [] [] := by
  have hCF := containsFunc_str l (by omega) _ [] rfl (by kernel_rfl) (fun s => !lineB s) (fun x hx => nline_den x (by have := hs x hx; omega))
  have hLb := labels_den l (by omega) (fun s h => by have := hs s h; omega)
  have hll := labels_len true l
  have hlm : ∀ x ∈ labelsB true l, x.size ≤ 1000000000000 := fun x hx => by
    obtain ⟨s, h1, h2⟩ := labels_mem true l x hx
    have := hs s h1
    omega
  unfold rightFn
  by_cases h1 : l.length < 1
  · rw [if_pos h1]
    clear hCF hLb
    (refine den_walk mix Tryz.func47 rfl (by kernel_rfl) rfl [.tmp 2] rfl (by simp) ?_; simp only [bodyOf, Tryz.f47])
    (repeat refine stp ?_)
    exact FE
  rw [if_neg h1]
  by_cases h2 : l.length > 1000
  · rw [if_pos h2]
    clear hCF hLb
    (refine den_walk mix Tryz.func47 rfl (by kernel_rfl) rfl [.tmp 2] rfl (by simp) ?_; simp only [bodyOf, Tryz.f47])
    (repeat refine stp ?_)
    exact FE
  rw [if_neg h2]
  cases h3 : l.any (fun s => !lineB s) with
  | true =>
    rw [if_pos rfl]
    rw [h3] at hCF
    clear hLb
    (refine den_walk mix Tryz.func47 rfl (by kernel_rfl) rfl [.tmp 2] rfl (by simp) ?_; simp only [bodyOf, Tryz.f47])
    (repeat refine stp ?_)
    (refine RC (hCF) ?_)
    (repeat refine stp ?_)
    exact FE
  | false =>
    rw [if_neg (by decide)]
    rw [h3] at hCF
    obtain ⟨s0, hs0⟩ : ∃ s0, l[0]? = some s0 := ⟨_, List.getElem?_eq_getElem (by omega)⟩
    have hh : l.headD e0 = s0 := by
      cases l with
      | nil => cases hs0
      | cons x l => cases hs0; rfl
    rw [hh]
    have hsz0 := hs s0 (List.mem_of_getElem? hs0)
    have hP := parse_den s0 hsz0
    obtain ⟨hwP, hln⟩ := parse_wf s0 hsz0
    generalize parseH s0 = Pq at *
    clear hh
    cases h4 : Pq.2 with
    | false =>
      rw [if_pos rfl]
      clear hLb
      (refine den_walk mix Tryz.func47 rfl (by kernel_rfl) rfl [.tmp 2] rfl (by simp) ?_; simp only [bodyOf, Tryz.f47])
      (repeat refine stp ?_)
      (refine RC (hCF) ?_)
      (repeat refine stp ?_)
      (refine RC (hP) ?_)
      (repeat refine stp ?_)
      exact FE
    | true =>
      rw [if_neg (by decide)]
      have hU := unlike_den (allH Pq.1 ++ labelsB true l) (by have := hwP.n; simp [allH]; omega) (fun x hx => by
        rcases List.mem_append.1 hx with h | h
        · exact hwP.s x h
        · have := hlm x h; omega)
      have hE : [PV.str Pq.1.result] :: [PV.str Pq.1.left] :: [PV.str Pq.1.name] :: [PV.str Pq.1.right] :: [PV.str Pq.1.f] :: [PV.str Pq.1.g] :: (Pq.1.locals.map eS ++ (labelsB true l).map eS) = (allH Pq.1 ++ labelsB true l).map eS := by simp [allH, eS]
      have hN : 6 + Pq.1.locals.length + (labelsB true l).length = (allH Pq.1 ++ labelsB true l).length := by simp [allH]; omega
      have hRN : ∀ x ∈ labelsB true l, Den Tryz.prog 46 [.str x] [] (.bool (rightNm x)) [] [] := fun x hx => right_nm x (by have := hlm x hx; omega)
      have htL := take_allm eS Pq.1.locals
      have hB1 := all_eS Pq.1.locals
      have hB2 := all_eS (labelsB true l)
      have hRl : (allH Pq.1 ++ labelsB true l).length ≤ ((allH Pq.1 ++ labelsB true l).map eS).length := by simp
      have htR := take_allm eS (allH Pq.1 ++ labelsB true l)
      have hsR := sf_eS (allH Pq.1 ++ labelsB true l)
      generalize hRR : (allH Pq.1 ++ labelsB true l).map eS = R at *
      generalize (allH Pq.1 ++ labelsB true l).length = N at *
      generalize hbu : unlike (allH Pq.1 ++ labelsB true l) = bu at *
      generalize labelsB true l = Lb at *
      replace hE := Asd.mk hE
      replace hN := Asd.mk hN
      replace htR := Asd.mk htR
      clear hRR hbu hlm hwP h3
      (refine den_walk mix Tryz.func47 rfl (by kernel_rfl) rfl [.tmp 2] rfl (by simp) ?_; simp only [bodyOf, Tryz.f47])
      (repeat refine stp ?_)
      (refine RC (hCF) ?_)
      (repeat refine stp ?_)
      (refine RC (hP) ?_)
      (repeat refine stp ?_)
      (refine RC (hLb) ?_)
      (repeat refine stp ?_)
      refine Run_loop (fun m σ => ∃ (k v4 : Nat), σ.t 34 = .ro (Lb.map eS) ∧ σ.t 35 = .int .i64 Lb.length ∧ σ.t 36 = .int .i64 k ∧ σ.t 6 = .ro (Lb.map eS) ∧ σ.t 4 = .ptr (.loc 4 0) v4 0 0 ∧ σ.m (.loc 4 0) = ⟨v4, some (hdC Pq.1 (.ro (Pq.1.locals.map eS)))⟩ ∧ m = Lb.length - k ∧ k ≤ Lb.length ∧ (Lb.drop k).any (fun s => !rightNm s) = Lb.any (fun s => !rightNm s)) Lb.length ?_ ?_
      · exact ⟨0, _, rd, rd, rd, rd, rd, rdm, rfl, by omega, rfl⟩
      rintro m σ ⟨k, v4, g34, g35, g36, g6, g4, gm, rfl, hk, hr⟩
      by_cases hk1 : k < Lb.length
      · obtain ⟨x, hx⟩ : ∃ x, Lb[k]? = some x := ⟨_, List.getElem?_eq_getElem hk1⟩
        have hD := hRN x (List.mem_of_getElem? hx)
        rw [drop_get hx, List.any_cons] at hr
        cases hb : rightNm x with
        | false =>
          rw [hb] at hr hD
          simp only [Bool.not_false, Bool.true_or] at hr
          rw [if_pos hr.symm]
          clear hr
          (repeat refine stp ?_)
          (refine RC (hD) ?_)
          (repeat refine stp ?_)
          exact FE
        | true =>
          rw [hb] at hr hD
          simp only [Bool.not_true, Bool.false_or] at hr
          replace hr := Asd.mk hr
          (repeat refine stp ?_)
          (refine RC (hD) ?_)
          (repeat refine stp ?_)
          exact ⟨_, by omega, k + 1, v4, rd, rd, rd, rd, rd, rdm, rfl, by omega, hr.out⟩
      · have hke : k = Lb.length := by omega
        subst hke
        rw [List.drop_length, List.any_nil] at hr
        rw [if_neg (by rw [← hr]; decide)]
        clear hr hk1 hk hRN
        have hE := hE.out
        have hN := hN.out
        have h6 : 6 + Pq.1.locals.length = Pq.1.locals.length + 6 := Nat.add_comm _ _
        have hb16 : (6 + Pq.1.locals.length) * 16 ≤ 140737488355328 := by omega
        have hbN : (6 + Pq.1.locals.length + Lb.length) * 16 ≤ 140737488355328 := by omega
        have htP := take_allm eS Pq.1.locals
        have htB := take_allm eS Lb
        (repeat refine stp ?_)
        have hN2 : Pq.1.locals.length + 6 + Lb.length = N := by omega
        refine Run_gen (fun τ => ∃ v, τ.t 62 = .own (.loc 56 0) v N ∧ τ.m (.loc 56 0) = ⟨v, some (.rows true 9 1 R)⟩) ⟨_, rd, rdm⟩ ?_
        clear hE hN hN2 hbN hb16 h6 g34 g35 g6 g4 gm g36 σ
        rintro τ ⟨v, g62, gm⟩
        refine RZ (.loc 56 0) ?_
        have htR := htR.out
        (refine RC (hU) ?_)
        (repeat refine stp ?_)
        exact FE
theorem name_fn (l : List ByteArray) (hl : l.length ≤ 1099511627000) (hs : ∀ s ∈ l, s.size ≤ 1000000000000) : Den Tryz.prog 48 [.ro (l.map eS)] [] (.str (nameFn l)) [] [] := by
  have hR := right_fn l hl hs
  unfold nameFn
  cases h1 : rightFn l with
  | false =>
    rw [if_pos rfl]
    rw [h1] at hR
    (refine den_walk mix Tryz.func48 rfl (by kernel_rfl) rfl [.tmp 2] rfl (by simp) ?_; simp only [bodyOf, Tryz.f48])
    (repeat refine stp ?_)
    (refine RC (hR) ?_)
    (repeat refine stp ?_)
    exact FE
  | true =>
    rw [if_neg (by decide)]
    have h0 : 0 < l.length := by
      apply Nat.pos_of_ne_zero
      intro h
      unfold rightFn at h1
      rw [if_pos (by omega)] at h1
      cases h1
    rw [h1] at hR
    obtain ⟨s0, hs0⟩ : ∃ s0, l[0]? = some s0 := ⟨_, List.getElem?_eq_getElem (by omega)⟩
    have hh : l.headD e0 = s0 := by
      cases l with
      | nil => cases hs0
      | cons x l => cases hs0; rfl
    rw [hh]
    have hP := parse_den s0 (hs s0 (List.mem_of_getElem? hs0))
    generalize parseH s0 = Pq at *
    clear hh h1
    (refine den_walk mix Tryz.func48 rfl (by kernel_rfl) rfl [.tmp 2] rfl (by simp) ?_; simp only [bodyOf, Tryz.f48])
    (repeat refine stp ?_)
    (refine RC (hR) ?_)
    (repeat refine stp ?_)
    (refine RC (hP) ?_)
    (repeat refine stp ?_)
    exact FE
end Go.Proofs.YtfdeheodjkpkkaaGreatDoor.V
namespace Go.Proofs.YtfdeheodjkpkkaaGreatDoor.V
open Go Go.RowKit Go.Proofs Go.Proofs.Ev Go.Proofs.YtfdeheodjkpkkaaGreatDoor Go.Proofs.YtfdeheodjkpkkaaGreatDoor.Sp Go.Proofs.YtfdeheodjkpkkaaGreatDoor.Ba Go.Proofs.YtfdeheodjkpkkaaGreatDoorW.PrintWords Go.Proofs.YtfdeheodjkpkkaaGreatDoor.Dm Go.Proofs.YtfdeheodjkpkkaaGreatDoor.G Go.Proofs.YtfdeheodjkpkkaaGreatDoor.All
set_option maxHeartbeats 4000000
set_option maxRecDepth 100000
set_option linter.unusedSimpArgs false
set_option linter.unusedVariables false
set_option linter.unusedSectionVars false
theorem cmp_den (x y : Sp.Dec) (hx : wfD x) (hy : wfD y) : Den Tryz.prog 104 [.agg (eD x), .agg (eD y)] [] (.int .i64 (cmpD x.f0 x.f1 y.f0 y.f1)) [] [] := by
  obtain ⟨k, hk⟩ := Ba.Ev.at_ (De.compare_ev x.f0 x.f1 y.f0 y.f1 hx.1 hx.2 hy.1 hy.2)
  exact den_of_calls (us := [.agg #[.int .i64 x.f0, .int .i64 x.f1], .agg #[.int .i64 y.f0, .int .i64 y.f1]]) rfl rfl (fun w hT => decimal_Compare.calls k _ _ _ _ _ w hT hk)
/-! ### A single number -/
def dec0 : Sp.Dec := ⟨0, 0⟩
def aloneN (n : Sp.Nd) : Sp.Dec × Bool :=
  if n.f1.length > 0 then (dec0, false) else if n.f0 = 4 then (n.f3.headD dec0, true) else if n.f0 = 1 then (ofB (n.f2.headD 0), true) else if n.f0 = 2 then (ofB (n.f2.headD 0), true) else (dec0, false)
theorem head_of {α : Type} {l : List α} (h : 0 < l.length) (d : α) : l[0]? = some (l.headD d) := by
  cases l with
  | nil => cases h
  | cons x l => rfl
theorem alone_den (a : List Sp.Nd) (n : Sp.Nd) (h0 : a[0]? = some n) (hw : wfN n) (h4 : n.f1.length = 0 → n.f0 = 4 → 0 < n.f3.length) (h2 : n.f1.length = 0 → n.f0 = 1 ∨ n.f0 = 2 → 0 < n.f2.length) : Den Tryz.prog 103 [.ro (a.map eN)] [] (.tup [.agg (eD (aloneN n).1), .bool (aloneN n).2]) [] [] := by
  have hal : 0 < a.length := (List.getElem?_eq_some_iff.1 h0).1
  unfold aloneN
  by_cases c1 : n.f1.length > 0
  · rw [if_pos c1]
    (refine den_walk mix Tryz.func103 rfl (by kernel_rfl) rfl [.cell 2 55, .tmp 3] rfl (by simp) ?_; simp only [bodyOf, Tryz.f103])
    (repeat refine stp ?_)
    exact FE
  rw [if_neg c1]
  by_cases c2 : n.f0 = 4
  · rw [if_pos c2]
    have h3 := head_of (h4 (by omega) c2) dec0
    generalize n.f3.headD dec0 = d at *
    have hl3 := h4 (by omega) c2
    clear h4 h2
    (refine den_walk mix Tryz.func103 rfl (by kernel_rfl) rfl [.cell 2 55, .tmp 3] rfl (by simp) ?_; simp only [bodyOf, Tryz.f103])
    (repeat refine stp ?_)
    exact FE
  rw [if_neg c2]
  by_cases c3 : n.f0 = 1
  · rw [if_pos c3]
    have hl2 := h2 (by omega) (.inl c3)
    have h3 := head_of hl2 0
    have hI : I (n.f2.headD 0) := hw.i _ (List.mem_of_getElem? h3)
    generalize n.f2.headD 0 = d at *
    have hD := of_den d hI
    generalize ofB d = od at *
    clear h4 h2
    (refine den_walk mix Tryz.func103 rfl (by kernel_rfl) rfl [.cell 2 55, .tmp 3] rfl (by simp) ?_; simp only [bodyOf, Tryz.f103])
    (repeat refine stp ?_)
    (refine RC (hD) ?_)
    (repeat refine stp ?_)
    exact FE
  rw [if_neg c3]
  by_cases c4 : n.f0 = 2
  · rw [if_pos c4]
    have hl2 := h2 (by omega) (.inr c4)
    have h3 := head_of hl2 0
    have hI : I (n.f2.headD 0) := hw.i _ (List.mem_of_getElem? h3)
    generalize n.f2.headD 0 = d at *
    have hD := of_den d hI
    generalize ofB d = od at *
    clear h4 h2
    (refine den_walk mix Tryz.func103 rfl (by kernel_rfl) rfl [.cell 2 55, .tmp 3] rfl (by simp) ?_; simp only [bodyOf, Tryz.f103])
    (repeat refine stp ?_)
    (refine RC (hD) ?_)
    (repeat refine stp ?_)
    exact FE
  · rw [if_neg c4]
    clear h4 h2
    (refine den_walk mix Tryz.func103 rfl (by kernel_rfl) rfl [.cell 2 55, .tmp 3] rfl (by simp) ?_; simp only [bodyOf, Tryz.f103])
    (repeat refine stp ?_)
    exact FE
end Go.Proofs.YtfdeheodjkpkkaaGreatDoor.V
namespace Go.Proofs.YtfdeheodjkpkkaaGreatDoor.V
open Go Go.RowKit Go.Proofs Go.Proofs.Ev Go.Proofs.YtfdeheodjkpkkaaGreatDoor Go.Proofs.YtfdeheodjkpkkaaGreatDoor.Sp Go.Proofs.YtfdeheodjkpkkaaGreatDoor.Ba Go.Proofs.YtfdeheodjkpkkaaGreatDoorW.PrintWords Go.Proofs.YtfdeheodjkpkkaaGreatDoor.Dm
set_option maxHeartbeats 4000000
set_option maxRecDepth 100000
set_option linter.unusedSimpArgs false
set_option linter.unusedVariables false
set_option linter.unusedSectionVars false
theorem right_pos {n : Sp.Nd} {r : List Sp.Nd} (h : rightL (n :: r) = true) : 0 ≤ items n := by
  unfold rightL takeL walk at h
  rw [walkL] at h
  by_cases c : items n < 0 ∨ 0 + items n > 1048576 ∨ ([] : List Int).length ≥ 16
  · rw [if_pos c] at h
    simp at h
    omega
  · omega
theorem items_one {n : Sp.Nd} (h : 0 ≤ items n) (h1 : n.f1.length = 0) : (n.f0 = 4 → 0 < n.f3.length) ∧ (n.f0 = 1 ∨ n.f0 = 2 → 0 < n.f2.length) := by
  have hs : n.f1 = [] := List.length_eq_zero_iff.1 h1
  unfold items at h
  rw [hs] at h
  have hc : cnt [] = (1, true) := rfl
  rw [hc] at h
  simp only [Bool.true_eq_false, if_false] at h
  constructor
  · intro h4
    rw [h4] at h
    simp only [wants] at h
    simp at h
    apply Nat.pos_of_ne_zero
    intro h0
    rw [h0] at h
    split at h <;> simp at h
  · intro h4
    have hw : wants n.f0 1 = some (1, 0) := by
      unfold wants
      rw [if_pos (by omega)]
    rw [hw] at h
    simp at h
    apply Nat.pos_of_ne_zero
    intro h0
    rw [h0] at h
    simp at h
theorem alone_wf {n : Sp.Nd} (h : 0 ≤ items n) (hw : wfN n) : wfD (aloneN n).1 := by
  have z : wfD dec0 := ⟨⟨by decide, by decide⟩, ⟨by decide, by decide⟩⟩
  unfold aloneN
  split
  · exact z
  · rename_i c1
    have hx := items_one h (by omega)
    split
    · rename_i c2
      exact hw.d _ (List.mem_of_getElem? (head_of (hx.1 c2) dec0))
    · split
      · rename_i c3
        exact ofB_I _ (hw.i _ (List.mem_of_getElem? (head_of (hx.2 (.inl c3)) 0)))
      · split
        · rename_i c4
          exact ofB_I _ (hw.i _ (List.mem_of_getElem? (head_of (hx.2 (.inr c4)) 0)))
        · exact z
def betweenN (lo hi : Int) (n : Sp.Nd) : Bool := (aloneN n).2 && ((wholeB (aloneN n).1).2 && (decide (lo ≤ (wholeB (aloneN n).1).1) && decide ((wholeB (aloneN n).1).1 ≤ hi)))
theorem between_den (a : List Sp.Nd) (n : Sp.Nd) (lo hi : Int) (h0 : a[0]? = some n) (hw : wfN n) (hi0 : 0 ≤ items n) : Den Tryz.prog 105 [.ro (a.map eN), .int .i64 lo, .int .i64 hi] [] (.bool (betweenN lo hi n)) [] [] := by
  have hA := alone_den a n h0 hw (fun h => (items_one hi0 h).1) (fun h => (items_one hi0 h).2)
  have hW := whole_den _ (alone_wf hi0 hw)
  unfold betweenN
  generalize aloneN n = A at *
  generalize wholeB A.1 = B at *
  clear hi0 hw
  cases hA2 : A.2 with
  | false =>
    rw [hA2] at hA
    (refine den_walk mix Tryz.func105 rfl (by kernel_rfl) rfl [.tmp 6] rfl (by simp) ?_; simp only [bodyOf, Tryz.f105])
    (repeat refine stp ?_)
    (refine RC (hA) ?_)
    (repeat refine stp ?_)
    (refine RC (hW) ?_)
    (repeat refine stp ?_)
    (rw [Bool.false_and]; exact FE)
  | true =>
    rw [hA2] at hA
    cases hB2 : B.2 with
    | false =>
      rw [hB2] at hW
      (refine den_walk mix Tryz.func105 rfl (by kernel_rfl) rfl [.tmp 6] rfl (by simp) ?_; simp only [bodyOf, Tryz.f105])
      (repeat refine stp ?_)
      (refine RC (hA) ?_)
      (repeat refine stp ?_)
      (refine RC (hW) ?_)
      (repeat refine stp ?_)
      (rw [Bool.true_and, Bool.false_and]; exact FE)
    | true =>
      rw [hB2] at hW
      by_cases hlo : lo ≤ B.1
      · by_cases hh : B.1 ≤ hi
        · rw [decide_eq_true hlo, decide_eq_true hh]
          (refine den_walk mix Tryz.func105 rfl (by kernel_rfl) rfl [.tmp 6] rfl (by simp) ?_; simp only [bodyOf, Tryz.f105])
          (repeat refine stp ?_)
          (refine RC (hA) ?_)
          (repeat refine stp ?_)
          (refine RC (hW) ?_)
          (repeat refine stp ?_)
          (rw [Bool.true_and]; exact FE)
        · rw [decide_eq_true hlo, decide_eq_false hh]
          (refine den_walk mix Tryz.func105 rfl (by kernel_rfl) rfl [.tmp 6] rfl (by simp) ?_; simp only [bodyOf, Tryz.f105])
          (repeat refine stp ?_)
          (refine RC (hA) ?_)
          (repeat refine stp ?_)
          (refine RC (hW) ?_)
          (repeat refine stp ?_)
          (rw [Bool.true_and]; exact FE)
      · rw [decide_eq_false hlo]
        (refine den_walk mix Tryz.func105 rfl (by kernel_rfl) rfl [.tmp 6] rfl (by simp) ?_; simp only [bodyOf, Tryz.f105])
        (repeat refine stp ?_)
        (refine RC (hA) ?_)
        (repeat refine stp ?_)
        (refine RC (hW) ?_)
        (repeat refine stp ?_)
        (rw [Bool.true_and, Bool.false_and]; exact FE)
end Go.Proofs.YtfdeheodjkpkkaaGreatDoor.V
namespace Go.Proofs.YtfdeheodjkpkkaaGreatDoor.V
open Go Go.RowKit Go.Proofs Go.Proofs.Ev Go.Proofs.YtfdeheodjkpkkaaGreatDoor Go.Proofs.YtfdeheodjkpkkaaGreatDoor.Sp Go.Proofs.YtfdeheodjkpkkaaGreatDoor.Ba Go.Proofs.YtfdeheodjkpkkaaGreatDoorW.PrintWords Go.Proofs.YtfdeheodjkpkkaaGreatDoor.Dm
set_option maxHeartbeats 4000000
set_option maxRecDepth 100000
set_option linter.unusedSimpArgs false
set_option linter.unusedVariables false
set_option linter.unusedSectionVars false
abbrev tCT : ByteArray := ⟨#[226, 142, 149, 67, 84]⟩
abbrev tIO : ByteArray := ⟨#[226, 142, 149, 73, 79]⟩
abbrev tLX : ByteArray := ⟨#[226, 142, 149, 76, 88]⟩
abbrev tPP : ByteArray := ⟨#[226, 142, 149, 80, 80]⟩
abbrev tPW : ByteArray := ⟨#[226, 142, 149, 80, 87]⟩
abbrev tRL : ByteArray := ⟨#[226, 142, 149, 82, 76]⟩
def nd0 : Sp.Nd := ⟨0, [], [], []⟩
def sysN (s : ByteArray) (n : Sp.Nd) : Bool :=
  if seq s tCT = true then (aloneN n).2 && (decide (0 ≤ (aloneN n).1.f0) && decide (cmpD (aloneN n).1.f0 (aloneN n).1.f1 1 (-8) ≤ 0))
  else if seq s tIO = true then betweenN 0 1 n
  else if seq s tLX = true then decide (n.f0 = 3) && decide (n.f1.length < 2)
  else if seq s tPP = true then betweenN 1 18 n
  else if seq s tPW = true then betweenN 30 254 n
  else if seq s tRL = true then betweenN 1 2147483646 n
  else false
noncomputable def sysB (s : ByteArray) (a : List Sp.Nd) : Bool := tightR a && sysN s (a.headD nd0)
theorem tight_right {a : List Sp.Nd} (h : tightR a = true) : rightL a = true := by
  unfold tightR makeL at h
  by_cases hr : rightL a = true
  · exact hr
  · rw [dif_neg hr] at h
    cases h
theorem sys_den (s : ByteArray) (a : List Sp.Nd) (ha : a.length ≤ 1048576) (hw : ∀ n ∈ a, wfN n) : Den Tryz.prog 49 [.str s, .ro (a.map eN)] [] (.bool (sysB s a)) [] [] := by
  have hR := tight_den a ha hw
  unfold sysB
  cases hr : tightR a with
  | false =>
    rw [hr] at hR
    rw [Bool.false_and]
    (refine den_walk mix Tryz.func49 rfl (by kernel_rfl) rfl [.tmp 4] rfl (by simp) ?_; simp only [bodyOf, Tryz.f49])
    (repeat refine stp ?_)
    (refine RC (hR) ?_)
    (repeat refine stp ?_)
    exact FE
  | true =>
    rw [hr] at hR
    rw [Bool.true_and]
    obtain ⟨n, h0, hi0⟩ : ∃ n, a[0]? = some n ∧ 0 ≤ items n := by
      cases a with
      | nil => cases tight_right hr
      | cons n r => exact ⟨n, rfl, right_pos (tight_right hr)⟩
    have hh : a.headD nd0 = n := by
      cases a with
      | nil => cases h0
      | cons x l => cases h0; rfl
    rw [hh]
    have hwn := hw n (List.mem_of_getElem? h0)
    have hal : 0 < a.length := (List.getElem?_eq_some_iff.1 h0).1
    have hA := alone_den a n h0 hwn (fun h => (items_one hi0 h).1) (fun h => (items_one hi0 h).2)
    have hC := cmp_den (aloneN n).1 ⟨1, -8⟩ (alone_wf hi0 hwn) ⟨⟨by decide, by decide⟩, ⟨by decide, by decide⟩⟩
    have hB := fun lo hi => between_den a n lo hi h0 hwn hi0
    have hls := hwn.ls
    clear hw ha hr hh hi0 hwn
    unfold sysN
    cases h1 : seq s tCT with
    | true =>
      clear hB
      rw [if_pos rfl]
      generalize aloneN n = A at *
      generalize hcc : cmpD A.1.f0 A.1.f1 1 (-8) = cc at *
      clear hcc
      cases hA2 : A.2 with
      | false =>
        rw [hA2] at hA
        rw [Bool.false_and]
        (refine den_walk mix Tryz.func49 rfl (by kernel_rfl) rfl [.tmp 4] rfl (by simp) ?_; simp only [bodyOf, Tryz.f49])
        (repeat refine stp ?_)
        (refine RC (hR) ?_)
        (repeat refine stp ?_)
        (refine RC (hA) ?_)
        (repeat refine stp ?_)
        exact FE
      | true =>
        rw [hA2] at hA
        rw [Bool.true_and]
        by_cases h2 : 0 ≤ A.1.f0
        · rw [decide_eq_true h2, Bool.true_and]
          by_cases h3 : cc ≤ 0
          · rw [decide_eq_true h3]
            (refine den_walk mix Tryz.func49 rfl (by kernel_rfl) rfl [.tmp 4] rfl (by simp) ?_; simp only [bodyOf, Tryz.f49])
            (repeat refine stp ?_)
            (refine RC (hR) ?_)
            (repeat refine stp ?_)
            (refine RC (hA) ?_)
            (repeat refine stp ?_)
            (refine RC (hC) ?_)
            (repeat refine stp ?_)
            exact FE
          · rw [decide_eq_false h3]
            (refine den_walk mix Tryz.func49 rfl (by kernel_rfl) rfl [.tmp 4] rfl (by simp) ?_; simp only [bodyOf, Tryz.f49])
            (repeat refine stp ?_)
            (refine RC (hR) ?_)
            (repeat refine stp ?_)
            (refine RC (hA) ?_)
            (repeat refine stp ?_)
            (refine RC (hC) ?_)
            (repeat refine stp ?_)
            exact FE
        · rw [decide_eq_false h2, Bool.false_and]
          (refine den_walk mix Tryz.func49 rfl (by kernel_rfl) rfl [.tmp 4] rfl (by simp) ?_; simp only [bodyOf, Tryz.f49])
          (repeat refine stp ?_)
          (refine RC (hR) ?_)
          (repeat refine stp ?_)
          (refine RC (hA) ?_)
          (repeat refine stp ?_)
          exact FE
    | false =>
      rw [if_neg (by decide)]
      clear hA hC
      cases h2 : seq s tIO with
      | true =>
        rw [if_pos rfl]
        have hB := hB 0 1
        generalize betweenN 0 1 n = bb at *
        (refine den_walk mix Tryz.func49 rfl (by kernel_rfl) rfl [.tmp 4] rfl (by simp) ?_; simp only [bodyOf, Tryz.f49])
        (repeat refine stp ?_)
        (refine RC (hR) ?_)
        (repeat refine stp ?_)
        (refine RC (hB) ?_)
        (repeat refine stp ?_)
        exact FE
      | false =>
        rw [if_neg (by decide)]
        cases h3 : seq s tLX with
        | true =>
          rw [if_pos rfl]
          clear hB
          by_cases k3 : n.f0 = 3
          · rw [decide_eq_true k3, Bool.true_and]
            by_cases k4 : n.f1.length < 2
            · rw [decide_eq_true k4]
              (refine den_walk mix Tryz.func49 rfl (by kernel_rfl) rfl [.tmp 4] rfl (by simp) ?_; simp only [bodyOf, Tryz.f49])
              (repeat refine stp ?_)
              (refine RC (hR) ?_)
              (repeat refine stp ?_)
              exact FE
            · rw [decide_eq_false k4]
              (refine den_walk mix Tryz.func49 rfl (by kernel_rfl) rfl [.tmp 4] rfl (by simp) ?_; simp only [bodyOf, Tryz.f49])
              (repeat refine stp ?_)
              (refine RC (hR) ?_)
              (repeat refine stp ?_)
              exact FE
          · rw [decide_eq_false k3, Bool.false_and]
            (refine den_walk mix Tryz.func49 rfl (by kernel_rfl) rfl [.tmp 4] rfl (by simp) ?_; simp only [bodyOf, Tryz.f49])
            (repeat refine stp ?_)
            (refine RC (hR) ?_)
            (repeat refine stp ?_)
            exact FE
        | false =>
          rw [if_neg (by decide)]
          cases h4 : seq s tPP with
          | true =>
            rw [if_pos rfl]
            have hB := hB 1 18
            generalize betweenN 1 18 n = bb at *
            (refine den_walk mix Tryz.func49 rfl (by kernel_rfl) rfl [.tmp 4] rfl (by simp) ?_; simp only [bodyOf, Tryz.f49])
            (repeat refine stp ?_)
            (refine RC (hR) ?_)
            (repeat refine stp ?_)
            (refine RC (hB) ?_)
            (repeat refine stp ?_)
            exact FE
          | false =>
            rw [if_neg (by decide)]
            cases h5 : seq s tPW with
            | true =>
              rw [if_pos rfl]
              have hB := hB 30 254
              generalize betweenN 30 254 n = bb at *
              (refine den_walk mix Tryz.func49 rfl (by kernel_rfl) rfl [.tmp 4] rfl (by simp) ?_; simp only [bodyOf, Tryz.f49])
              (repeat refine stp ?_)
              (refine RC (hR) ?_)
              (repeat refine stp ?_)
              (refine RC (hB) ?_)
              (repeat refine stp ?_)
              exact FE
            | false =>
              rw [if_neg (by decide)]
              cases h6 : seq s tRL with
              | true =>
                rw [if_pos rfl]
                have hB := hB 1 2147483646
                generalize betweenN 1 2147483646 n = bb at *
                (refine den_walk mix Tryz.func49 rfl (by kernel_rfl) rfl [.tmp 4] rfl (by simp) ?_; simp only [bodyOf, Tryz.f49])
                (repeat refine stp ?_)
                (refine RC (hR) ?_)
                (repeat refine stp ?_)
                (refine RC (hB) ?_)
                (repeat refine stp ?_)
                exact FE
              | false =>
                rw [if_neg (by decide)]
                clear hB
                (refine den_walk mix Tryz.func49 rfl (by kernel_rfl) rfl [.tmp 4] rfl (by simp) ?_; simp only [bodyOf, Tryz.f49])
                (repeat refine stp ?_)
                (refine RC (hR) ?_)
                (repeat refine stp ?_)
                exact FE
end Go.Proofs.YtfdeheodjkpkkaaGreatDoor.V
namespace Go.Proofs.YtfdeheodjkpkkaaGreatDoor.V
open Go Go.RowKit Go.Proofs Go.Proofs.Ev Go.Proofs.YtfdeheodjkpkkaaGreatDoor Go.Proofs.YtfdeheodjkpkkaaGreatDoor.Sp Go.Proofs.YtfdeheodjkpkkaaGreatDoor.Ba Go.Proofs.YtfdeheodjkpkkaaGreatDoorW.PrintWords Go.Proofs.YtfdeheodjkpkkaaGreatDoor.Dm
set_option maxHeartbeats 4000000
set_option maxRecDepth 100000
set_option linter.unusedSimpArgs false
set_option linter.unusedVariables false
set_option linter.unusedSectionVars false
structure wfO (o : Sp.Ob) : Prop where
  k : I o.f0
  n : o.f1.size ≤ 1000000000000
  la : o.f2.length ≤ 1048576
  a : ∀ x ∈ o.f2, wfN x
  ll : o.f3.length ≤ 1099511627000
  l : ∀ x ∈ o.f3, x.size ≤ 1000000000000
noncomputable def oneB (o : Sp.Ob) : Bool :=
  if o.f0 = 1 then rightNm o.f1 && (tightR o.f2 && decide (o.f3.length = 0))
  else if o.f0 = 2 then rightFn o.f3 && (seq (nameFn o.f3) o.f1 && decide (o.f2.length = 0))
  else if o.f0 = 3 then sysB o.f1 o.f2 && decide (o.f3.length = 0)
  else false
theorem one_den (o : Sp.Ob) (h : wfO o) : Den Tryz.prog 16 [.agg (eO o)] [] (.bool (oneB o)) [] [] := by
  have hn := right_nm o.f1 (by have := h.n; omega)
  have ht := tight_den o.f2 h.la h.a
  have hf := right_fn o.f3 h.ll h.l
  have hm := name_fn o.f3 h.ll h.l
  have hs := sys_den o.f1 o.f2 (by have := h.la; omega) h.a
  have hla := h.la
  have hll := h.ll
  clear h
  unfold oneB
  generalize rightNm o.f1 = b1 at *
  generalize tightR o.f2 = b2 at *
  generalize rightFn o.f3 = b3 at *
  generalize nameFn o.f3 = nm at *
  generalize sysB o.f1 o.f2 = b4 at *
  by_cases k1 : o.f0 = 1
  · rw [if_pos k1]
    clear hf hm hs
    cases b1 with
    | false =>
      rw [Bool.false_and]
      (refine den_walk mix Tryz.func16 rfl (by kernel_rfl) rfl [.tmp 2] rfl (by simp) ?_; simp only [bodyOf, Tryz.f16])
      (repeat refine stp ?_)
      (refine RC (hn) ?_)
      (repeat refine stp ?_)
      exact FE
    | true =>
      rw [Bool.true_and]
      cases b2 with
      | false =>
        rw [Bool.false_and]
        (refine den_walk mix Tryz.func16 rfl (by kernel_rfl) rfl [.tmp 2] rfl (by simp) ?_; simp only [bodyOf, Tryz.f16])
        (repeat refine stp ?_)
        (refine RC (hn) ?_)
        (repeat refine stp ?_)
        (refine RC (ht) ?_)
        (repeat refine stp ?_)
        exact FE
      | true =>
        rw [Bool.true_and]
        by_cases k4 : o.f3.length = 0
        · rw [decide_eq_true k4]
          (refine den_walk mix Tryz.func16 rfl (by kernel_rfl) rfl [.tmp 2] rfl (by simp) ?_; simp only [bodyOf, Tryz.f16])
          (repeat refine stp ?_)
          (refine RC (hn) ?_)
          (repeat refine stp ?_)
          (refine RC (ht) ?_)
          (repeat refine stp ?_)
          exact FE
        · rw [decide_eq_false k4]
          (refine den_walk mix Tryz.func16 rfl (by kernel_rfl) rfl [.tmp 2] rfl (by simp) ?_; simp only [bodyOf, Tryz.f16])
          (repeat refine stp ?_)
          (refine RC (hn) ?_)
          (repeat refine stp ?_)
          (refine RC (ht) ?_)
          (repeat refine stp ?_)
          exact FE
  rw [if_neg k1]
  by_cases k2 : o.f0 = 2
  · rw [if_pos k2]
    clear hn ht hs
    cases b3 with
    | false =>
      rw [Bool.false_and]
      (refine den_walk mix Tryz.func16 rfl (by kernel_rfl) rfl [.tmp 2] rfl (by simp) ?_; simp only [bodyOf, Tryz.f16])
      (repeat refine stp ?_)
      (refine DC (hf) ?_)
      (repeat refine stp ?_)
      exact FE
    | true =>
      rw [Bool.true_and]
      cases k5 : seq nm o.f1 with
      | false =>
        rw [Bool.false_and]
        (refine den_walk mix Tryz.func16 rfl (by kernel_rfl) rfl [.tmp 2] rfl (by simp) ?_; simp only [bodyOf, Tryz.f16])
        (repeat refine stp ?_)
        (refine DC (hf) ?_)
        (repeat refine stp ?_)
        (refine DC (hm) ?_)
        (repeat refine stp ?_)
        exact FE
      | true =>
        rw [Bool.true_and]
        by_cases k4 : o.f2.length = 0
        · rw [decide_eq_true k4]
          (refine den_walk mix Tryz.func16 rfl (by kernel_rfl) rfl [.tmp 2] rfl (by simp) ?_; simp only [bodyOf, Tryz.f16])
          (repeat refine stp ?_)
          (refine DC (hf) ?_)
          (repeat refine stp ?_)
          (refine DC (hm) ?_)
          (repeat refine stp ?_)
          exact FE
        · rw [decide_eq_false k4]
          (refine den_walk mix Tryz.func16 rfl (by kernel_rfl) rfl [.tmp 2] rfl (by simp) ?_; simp only [bodyOf, Tryz.f16])
          (repeat refine stp ?_)
          (refine DC (hf) ?_)
          (repeat refine stp ?_)
          (refine DC (hm) ?_)
          (repeat refine stp ?_)
          exact FE
  rw [if_neg k2]
  by_cases k3 : o.f0 = 3
  · rw [if_pos k3]
    clear hn ht hf hm
    cases b4 with
    | false =>
      rw [Bool.false_and]
      (refine den_walk mix Tryz.func16 rfl (by kernel_rfl) rfl [.tmp 2] rfl (by simp) ?_; simp only [bodyOf, Tryz.f16])
      (repeat refine stp ?_)
      (refine RC (hs) ?_)
      (repeat refine stp ?_)
      exact FE
    | true =>
      rw [Bool.true_and]
      by_cases k4 : o.f3.length = 0
      · rw [decide_eq_true k4]
        (refine den_walk mix Tryz.func16 rfl (by kernel_rfl) rfl [.tmp 2] rfl (by simp) ?_; simp only [bodyOf, Tryz.f16])
        (repeat refine stp ?_)
        (refine RC (hs) ?_)
        (repeat refine stp ?_)
        exact FE
      · rw [decide_eq_false k4]
        (refine den_walk mix Tryz.func16 rfl (by kernel_rfl) rfl [.tmp 2] rfl (by simp) ?_; simp only [bodyOf, Tryz.f16])
        (repeat refine stp ?_)
        (refine RC (hs) ?_)
        (repeat refine stp ?_)
        exact FE
  · rw [if_neg k3]
    clear hn ht hs hf hm
    (refine den_walk mix Tryz.func16 rfl (by kernel_rfl) rfl [.tmp 2] rfl (by simp) ?_; simp only [bodyOf, Tryz.f16])
    (repeat refine stp ?_)
    exact FE
end Go.Proofs.YtfdeheodjkpkkaaGreatDoor.V
namespace Go.Proofs.YtfdeheodjkpkkaaGreatDoor.V
open Go Go.RowKit Go.Proofs Go.Proofs.Ev Go.Proofs.YtfdeheodjkpkkaaGreatDoor Go.Proofs.YtfdeheodjkpkkaaGreatDoor.Sp Go.Proofs.YtfdeheodjkpkkaaGreatDoor.Ba
set_option maxHeartbeats 4000000
set_option maxRecDepth 100000
set_option linter.unusedSimpArgs false
set_option linter.unusedVariables false
set_option linter.unusedSectionVars false
def few16Go : List ByteArray → Int → Option Int
  | [], n => some n
  | s :: l, n => if s.size > 200 then none else few16Go l (n + s.size)
def few16 (l : List ByteArray) : Bool := match few16Go (l.take 100) 0 with
  | none => false
  | some n => decide (l.length ≤ 50) && decide (n ≤ 2000)
theorem few16_den (l : List ByteArray) (hl : l.length ≤ 140737488351232) : Den Tryz.prog 45 [.ro (l.map eS)] [] (.bool (few16 l)) [] [] := by
  (refine den_walk mix Tryz.func45 rfl (by kernel_rfl) rfl [.tmp 2] rfl (by simp) ?_; simp only [bodyOf, Tryz.f45])
  (repeat refine stp ?_)
  refine Run_loop (fun m σ => ∃ (k : Nat) (n : Int), σ.t 0 = .ro (l.map eS) ∧ σ.t 3 = .int .i64 n ∧ σ.t 4 = .int .i64 k ∧ few16Go ((l.take 100).drop k) n = few16Go (l.take 100) 0 ∧ m = 100 - k ∧ k ≤ l.length ∧ k ≤ 100 ∧ 0 ≤ n ∧ n ≤ k * 200) 100 ?_ ?_
  · exact ⟨0, 0, rd, rd, rd, rfl, rfl, by omega, by omega, by omega, by omega⟩
  rintro m σ ⟨k, n, g0, g3, g4, hr, rfl, hk, hk2, hn0, hn1⟩
  by_cases hk1 : k < l.length
  · by_cases hk3 : k < 100
    · obtain ⟨s, hs⟩ : ∃ s, l[k]? = some s := ⟨_, List.getElem?_eq_getElem hk1⟩
      have hs2 : (l.take 100)[k]? = some s := by rw [List.getElem?_take_of_lt hk3, hs]
      rw [drop_get hs2, few16Go] at hr
      by_cases c : s.size > 200
      · rw [if_pos c] at hr
        have e : few16 l = false := by unfold few16; rw [← hr]
        rw [e]
        clear hr e hs2
        (repeat refine stp ?_)
        exact FE
      · rw [if_neg c] at hr
        replace hr := Asd.mk hr
        replace hs2 := Asd.mk hs2
        (repeat refine stp ?_)
        exact ⟨_, by omega, k + 1, n + s.size, rd, rd, rd, hr.out, rfl, by omega, by omega, by omega, by omega⟩
    · have e : few16 l = (decide (l.length ≤ 50) && decide (n ≤ 2000)) := by
        rw [List.drop_of_length_le (by simp; omega), few16Go] at hr
        unfold few16; rw [← hr]
      have e2 : few16 l = false := by rw [e, decide_eq_false (by omega), Bool.false_and]
      rw [e2]
      clear hr e e2
      (repeat refine stp ?_)
      exact FE
  · have e : few16 l = (decide (l.length ≤ 50) && decide (n ≤ 2000)) := by
      rw [List.drop_of_length_le (by simp; omega), few16Go] at hr
      unfold few16; rw [← hr]
    rw [e]
    clear hr e
    by_cases c1 : l.length ≤ 50
    · rw [decide_eq_true c1, Bool.true_and]
      by_cases c2 : n ≤ 2000
      · rw [decide_eq_true c2]
        (repeat refine stp ?_)
        exact FE
      · rw [decide_eq_false c2]
        (repeat refine stp ?_)
        exact FE
    · rw [decide_eq_false c1, Bool.false_and]
      (repeat refine stp ?_)
      exact FE
end Go.Proofs.YtfdeheodjkpkkaaGreatDoor.V
namespace Go.Proofs.YtfdeheodjkpkkaaGreatDoor.V
open Go Go.RowKit Go.Proofs Go.Proofs.Ev Go.Proofs.YtfdeheodjkpkkaaGreatDoor Go.Proofs.YtfdeheodjkpkkaaGreatDoor.Sp Go.Proofs.YtfdeheodjkpkkaaGreatDoor.Ba
set_option maxHeartbeats 4000000
set_option maxRecDepth 100000
set_option linter.unusedSimpArgs false
set_option linter.unusedVariables false
set_option linter.unusedSectionVars false
def few10Go : List Sp.Nd → Int → Option Int
  | [], n => some n
  | s :: l, n => if s.f1.length > 30 then none else if s.f2.length > 300 then none else if s.f3.length > 300 then none else few10Go l (n + s.f2.length + s.f3.length)
def few10 (l : List Sp.Nd) : Bool := match few10Go (l.take 200) 0 with
  | none => false
  | some n => decide (l.length ≤ 100) && decide (n ≤ 1000)
theorem few10_den (l : List Sp.Nd) (hl : l.length ≤ 140737488351232) : Den Tryz.prog 30 [.ro (l.map eN)] [] (.bool (few10 l)) [] [] := by
  (refine den_walk mix Tryz.func30 rfl (by kernel_rfl) rfl [.tmp 2] rfl (by simp) ?_; simp only [bodyOf, Tryz.f30])
  (repeat refine stp ?_)
  refine Run_loop (fun m σ => ∃ (k : Nat) (n : Int), σ.t 0 = .ro (l.map eN) ∧ σ.t 3 = .int .i64 n ∧ σ.t 4 = .int .i64 k ∧ few10Go ((l.take 200).drop k) n = few10Go (l.take 200) 0 ∧ m = 200 - k ∧ k ≤ l.length ∧ k ≤ 200 ∧ 0 ≤ n ∧ n ≤ k * 600) 200 ?_ ?_
  · exact ⟨0, 0, rd, rd, rd, rfl, rfl, by omega, by omega, by omega, by omega⟩
  rintro m σ ⟨k, n, g0, g3, g4, hr, rfl, hk, hk2, hn0, hn1⟩
  by_cases hk1 : k < l.length
  · by_cases hk3 : k < 200
    · obtain ⟨s, hs⟩ : ∃ s, l[k]? = some s := ⟨_, List.getElem?_eq_getElem hk1⟩
      have hs2 : (l.take 200)[k]? = some s := by rw [List.getElem?_take_of_lt hk3, hs]
      rw [drop_get hs2, few10Go] at hr
      clear hs2
      by_cases c : s.f1.length > 30
      · rw [if_pos c] at hr
        have e : few10 l = false := by unfold few10; rw [← hr]
        rw [e]
        clear hr e
        (repeat refine stp ?_)
        exact FE
      rw [if_neg c] at hr
      by_cases c2 : s.f2.length > 300
      · rw [if_pos c2] at hr
        have e : few10 l = false := by unfold few10; rw [← hr]
        rw [e]
        clear hr e
        (repeat refine stp ?_)
        exact FE
      rw [if_neg c2] at hr
      by_cases c3 : s.f3.length > 300
      · rw [if_pos c3] at hr
        have e : few10 l = false := by unfold few10; rw [← hr]
        rw [e]
        clear hr e
        (repeat refine stp ?_)
        exact FE
      rw [if_neg c3] at hr
      replace hr := Asd.mk hr
      (repeat refine stp ?_)
      exact ⟨_, by omega, k + 1, n + s.f2.length + s.f3.length, rd, rd, rd, hr.out, rfl, by omega, by omega, by omega, by omega⟩
    · have e : few10 l = (decide (l.length ≤ 100) && decide (n ≤ 1000)) := by
        rw [List.drop_of_length_le (by simp; omega), few10Go] at hr
        unfold few10; rw [← hr]
      have e2 : few10 l = false := by rw [e, decide_eq_false (by omega), Bool.false_and]
      rw [e2]
      clear hr e e2
      (repeat refine stp ?_)
      exact FE
  · have e : few10 l = (decide (l.length ≤ 100) && decide (n ≤ 1000)) := by
      rw [List.drop_of_length_le (by simp; omega), few10Go] at hr
      unfold few10; rw [← hr]
    rw [e]
    clear hr e
    by_cases c1 : l.length ≤ 100
    · rw [decide_eq_true c1, Bool.true_and]
      by_cases c2 : n ≤ 1000
      · rw [decide_eq_true c2]
        (repeat refine stp ?_)
        exact FE
      · rw [decide_eq_false c2]
        (repeat refine stp ?_)
        exact FE
    · rw [decide_eq_false c1, Bool.false_and]
      (repeat refine stp ?_)
      exact FE
end Go.Proofs.YtfdeheodjkpkkaaGreatDoor.V
namespace Go.Proofs.YtfdeheodjkpkkaaGreatDoor.V
open Go Go.RowKit Go.Proofs Go.Proofs.Ev Go.Proofs.YtfdeheodjkpkkaaGreatDoor Go.Proofs.YtfdeheodjkpkkaaGreatDoor.Sp Go.Proofs.YtfdeheodjkpkkaaGreatDoor.Ba
set_option maxHeartbeats 4000000
set_option maxRecDepth 100000
set_option linter.unusedSimpArgs false
set_option linter.unusedVariables false
set_option linter.unusedSectionVars false
def fewO (o : Sp.Ob) : Bool := few10 o.f2 && (few16 o.f3 && decide (o.f1.size ≤ 100))
def few18 (w : List Sp.Ob) : Bool := (w.take 30).all fewO && decide (w.length ≤ 20)
theorem few18_den (w : List Sp.Ob) (hl : w.length ≤ 140737488351232) (hw : ∀ o ∈ w, o.f2.length ≤ 140737488351232 ∧ o.f3.length ≤ 140737488351232) : Den Tryz.prog 15 [.ro (w.map eO)] [] (.bool (few18 w)) [] [] := by
  unfold few18
  (refine den_walk mix Tryz.func15 rfl (by kernel_rfl) rfl [.tmp 2] rfl (by simp) ?_; simp only [bodyOf, Tryz.f15])
  (repeat refine stp ?_)
  refine Run_loop (fun m σ => ∃ (k : Nat), σ.t 0 = .ro (w.map eO) ∧ σ.t 3 = .int .i64 k ∧ ((w.take 30).drop k).all fewO = (w.take 30).all fewO ∧ m = 30 - k ∧ k ≤ w.length ∧ k ≤ 30) 30 ?_ ?_
  · exact ⟨0, rd, rd, rfl, rfl, by omega, by omega⟩
  rintro m σ ⟨k, g0, g3, hr, rfl, hk, hk2⟩
  by_cases hk1 : k < w.length
  · by_cases hk3 : k < 30
    · obtain ⟨o, hs⟩ : ∃ o, w[k]? = some o := ⟨_, List.getElem?_eq_getElem hk1⟩
      have hs2 : (w.take 30)[k]? = some o := by rw [List.getElem?_take_of_lt hk3, hs]
      have hwo := hw o (List.mem_of_getElem? hs)
      have hA := few10_den o.f2 hwo.1
      have hB := few16_den o.f3 hwo.2
      rw [drop_get hs2, List.all_cons, fewO] at hr
      clear hs2 hw hwo
      generalize few10 o.f2 = b1 at *
      generalize few16 o.f3 = b2 at *
      cases b1 with
      | false =>
        rw [Bool.false_and, Bool.false_and] at hr
        rw [← hr, Bool.false_and]
        clear hr
        (repeat refine stp ?_)
        (refine RC (hA) ?_)
        (repeat refine stp ?_)
        (refine RC (hB) ?_)
        (repeat refine stp ?_)
        exact FE
      | true =>
        rw [Bool.true_and] at hr
        cases b2 with
        | false =>
          rw [Bool.false_and, Bool.false_and] at hr
          rw [← hr, Bool.false_and]
          clear hr
          (repeat refine stp ?_)
          (refine RC (hA) ?_)
          (repeat refine stp ?_)
          (refine RC (hB) ?_)
          (repeat refine stp ?_)
          exact FE
        | true =>
          rw [Bool.true_and] at hr
          by_cases c : o.f1.size ≤ 100
          · rw [decide_eq_true c, Bool.true_and] at hr
            replace hr := Asd.mk hr
            (repeat refine stp ?_)
            (refine RC (hA) ?_)
            (repeat refine stp ?_)
            (refine RC (hB) ?_)
            (repeat refine stp ?_)
            exact ⟨_, by omega, k + 1, rd, rd, hr.out, rfl, by omega, by omega⟩
          · rw [decide_eq_false c, Bool.false_and] at hr
            rw [← hr, Bool.false_and]
            clear hr
            (repeat refine stp ?_)
            (refine RC (hA) ?_)
            (repeat refine stp ?_)
            (refine RC (hB) ?_)
            (repeat refine stp ?_)
            exact FE
    · rw [decide_eq_false (by omega), Bool.and_false]
      clear hr hw
      (repeat refine stp ?_)
      exact FE
  · rw [List.drop_of_length_le (by simp; omega), List.all_nil] at hr
    rw [← hr, Bool.true_and]
    clear hr hw
    by_cases c1 : w.length ≤ 20
    · rw [decide_eq_true c1]
      (repeat refine stp ?_)
      exact FE
    · rw [decide_eq_false c1]
      (repeat refine stp ?_)
      exact FE
end Go.Proofs.YtfdeheodjkpkkaaGreatDoor.V
