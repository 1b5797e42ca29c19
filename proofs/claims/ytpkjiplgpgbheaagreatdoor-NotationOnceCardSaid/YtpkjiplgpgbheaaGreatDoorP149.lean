/- What the laws lean on, part 9: texts of this claim, merged and cut to what is used. -/
import Derived.Test.YtpkjiplgpgbheaaGreatDoorP14EpFo
import Derived.Test.YtpkjiplgpgbheaaGreatDoorP14EpNt
import Derived.Test.YtpkjiplgpgbheaaGreatDoorP14EpSp2
import Derived.Test.YtpkjiplgpgbheaaGreatDoorP14EpSp3
import Derived.Test.YtpkjiplgpgbheaaGreatDoorP148
import Derived.Test.YtpkjiplgpgbheaaGreatDoorP142
set_option linter.unusedVariables false
set_option linter.unusedSimpArgs false
set_option linter.unusedSectionVars false
namespace Go.Proofs.YtpkjiplgpgbheaaGreatDoor.V
open Go Go.RowKit Go.Proofs Go.Proofs.Ev Go.Proofs.YtpkjiplgpgbheaaGreatDoor Go.Proofs.YtpkjiplgpgbheaaGreatDoor.Sp Go.Proofs.YtpkjiplgpgbheaaGreatDoor.Ba Go.Proofs.YtpkjiplgpgbheaaGreatDoor.Nt
set_option maxHeartbeats 4000000
set_option maxRecDepth 100000
set_option linter.unusedSimpArgs false
set_option linter.unusedVariables false
attribute [go_sem] bS bB
theorem valid_in {x : Int} (h : Lib.validRune x = true) : 0 ≤ x ∧ x ≤ 1114111 := by
  unfold Lib.validRune at h
  have := of_decide_eq_true h
  omega
theorem qcell_le (x : Int) : 1 ≤ (qcell x).length ∧ (qcell x).length ≤ 4 := by
  unfold qcell
  split
  · simp
  · rw [← Lib.runeCells_length]
    exact Lib.runeCells_le x
theorem qtext_snoc (l : List Int) (x : Int) : qtext (l ++ [x]) = qtext l ++ qcell x := by simp [qtext]
theorem qtext_le : ∀ l : List Int, (qtext l).length ≤ 4 * l.length
  | [] => by simp [qtext]
  | x :: l => by
    have h1 := qtext_le l
    have h2 := (qcell_le x).2
    simp only [qtext, List.map_cons, List.flatten_cons, List.length_append, List.length_cons] at h1 ⊢
    omega
theorem enc39 (x : Int) (hx : Lib.validRune x = true) : ((Utf8.encode x).toList == (⟨#[39]⟩ : ByteArray).toList) = decide (x = 39) := by
  rw [show (⟨#[39]⟩ : ByteArray).toList = [39] from by rw [toList_eq]]
  have hv : Utf8.valid x = true := by
    unfold Lib.validRune at hx
    have := of_decide_eq_true hx
    unfold Utf8.valid
    simp
    omega
  obtain ⟨x0, x1⟩ := valid_in hx
  unfold Utf8.encode
  simp only [hv, if_true]
  split
  · rename_i h
    rw [toList_eq]
    by_cases h9 : x = 39
    · subst h9
      rfl
    · rw [decide_eq_false h9]
      have : UInt8.ofNat x.toNat ≠ 39 := by
        intro k
        have k2 := congrArg UInt8.toNat k
        rw [UInt8.toNat_ofNat'] at k2
        have : (39 : UInt8).toNat = 39 := rfl
        omega
      simpa using this
  · rename_i h
    have h9 : x ≠ 39 := by omega
    rw [decide_eq_false h9]
    split
    · rw [toList_eq]; simp
    · split <;> (rw [toList_eq]; simp)
/-- A text behind what was written. -/
theorem w_den (a : PV) (ha : Adr a) (l l' : List UInt8) (s : ByteArray) (h : l' = l ++ s.data.toList) (hl : l'.length ≤ 140737488355328) : DenD Tryz.prog 92 [.ptr (.ext 0) 0 0 0, .str s] [bS a (.ext 1) 0 l.length, bB l] (.tup [.int .i64 s.size, .nili]) [] [(0, some (bS (.ptr (.ext 0) 0 0 0) (.ext 1) 1 l'.length)), (1, some (bB l'))] := by
  have e : l'.length = l.length + s.size := by rw [h, List.length_append, size_data]
  have := wstr_den a ha l s (by omega)
  rw [← e, ← h] at this
  exact this
theorem wr_den (a : PV) (ha : Adr a) (l l' : List UInt8) (r : Int) (hr : Lib.validRune r = true) (h : l' = l ++ Lib.encodeRune r) (hl : l.length + 4 ≤ 140737488355328) : DenD Tryz.prog 94 [.ptr (.ext 0) 0 0 0, .int .i32 r] [bS a (.ext 1) 0 l.length, bB l] (.tup [.int .i64 (Lib.encodeRune r).length, .nili]) [] [(0, some (bS (.ptr (.ext 0) 0 0 0) (.ext 1) 1 l'.length)), (1, some (bB l'))] := by
  have e : l'.length = l.length + (Lib.encodeRune r).length := by rw [h, List.length_append]
  have := wrune_den a ha l r hr hl
  rw [← e, ← h] at this
  exact this
theorem qtextden (l : List Int) (hI : ∀ x ∈ l, I x) (hl : l.length ≤ 1099511627776) : Den Tryz.prog 40 [.ro (l.map eI)] [] (.tup [.str (textQ l).1, .bool (textQ l).2]) [] [] := by
  have h0 := w_den .nilp (.inl rfl) [] [39] ⟨#[39]⟩ rfl (by simp)
  (refine den_walk mix Tryz.func40 rfl (by kernel_rfl) rfl [.tmp 2, .tmp 3] rfl (by simp) ?_; simp only [bodyOf, Tryz.f40])
  (repeat refine stp ?_)
  refine RGh (Gh.nilcell (b := .loc 4 0) (v := 1) (e := 117) (sz := 2) (rs := [[.nilp, .nils]]) (by exact q_) 0 1 rfl rfl (.loc 99 0) 5 1 (by decide) (v' := 0) (by exact q_) (by decide)) ?_
  refine RX [.loc 4 0, .loc 99 0] h0 ?_
  (repeat refine stp ?_)
  refine Run_loop (fun m σ => ∃ (k v : Nat) (q : List UInt8), σ.t 4 = .ptr (.loc 4 0) 1 0 0 ∧ σ.m (.loc 4 0) = ⟨1, some (.rows false 117 2 [[.ptr (.loc 4 0) 1 0 0, .own (.loc 99 0) v q.length]])⟩ ∧ σ.m (.loc 99 0) = ⟨v, some (.rows true 5 1 (q.map eB))⟩ ∧ σ.t 9 = .ro (l.map eI) ∧ σ.t 10 = .int .i64 l.length ∧ σ.t 11 = .int .i64 k ∧ k ≤ l.length ∧ q = 39 :: qtext (l.take k) ∧ (l.take k).all Lib.validRune = true ∧ m = l.length - k) l.length ?_ ?_
  · exact ⟨0, _, [39], rd, rdm, rdm, rd, rd, rd, Nat.zero_le _, rfl, rfl, rfl⟩
  rintro m σ ⟨k, v, q, h4, hm4, hm9, h9, h10, h11, hk, hq, hv, rfl⟩
  have hqz : 0 < q.length ∧ q.length ≤ 1 + 4 * k := by
    have h1 := qtext_le (l.take k)
    have h2 : (l.take k).length = k := by rw [List.length_take]; omega
    rw [hq, List.length_cons]
    omega
  by_cases hlt : k < l.length
  · obtain ⟨x, hs⟩ : ∃ x, l[k]? = some x := ⟨_, List.getElem?_eq_getElem hlt⟩
    have hst := take_step hs
    have hx := List.mem_of_getElem? hs
    have w32 : IntKind.i32.wrap x = wrap32 x := IntWalk.i32_left x
    have wb : IntKind.i64.wrap (wrap32 x) = wrap64 (wrap32 x) := IntWalk.i64_left _
    by_cases hvx : Lib.validRune x = true
    · obtain ⟨x0, x1⟩ := valid_in hvx
      have hV := vrune_den x
      rw [hvx] at hV
      have w1 : IntKind.i32.wrap x = x := IntWalk.i32_in _ (by omega)
      have w2 : IntKind.i64.wrap x = x := IntWalk.i64_in _ (by omega)
      have hE := enc39 x hvx
      have hv2 : Asd ((l.take (k + 1)).all Lib.validRune = true) := ⟨by rw [hst, List.all_append, hv]; simp [hvx]⟩
      have hR := wr_den (.ptr (.ext 0) 0 0 0) (.inr rfl) q (q ++ Lib.encodeRune x) x hvx rfl (by omega)
      have hz := Lib.encodeRuneZ_length x
      rw [← encLen] at hz
      have hlq : (q ++ Lib.encodeRune x).length = q.length + (Lib.encodeRune x).length := List.length_append
      clear w32 wb
      by_cases h39 : x = 39
      · have hq2 : Asd ((q ++ Lib.encodeRune x) ++ [39] = 39 :: qtext (l.take (k + 1))) := ⟨by rw [hst, qtext_snoc, hq, h39]; simp [qcell]; decide⟩
        have hW := w_den (.ptr (.ext 0) 0 0 0) (.inr rfl) (q ++ Lib.encodeRune x) (q ++ Lib.encodeRune x ++ [39]) ⟨#[39]⟩ rfl (by simp; omega)
        rw [decide_eq_true h39] at hE
        generalize q ++ Lib.encodeRune x = q1 at *
        generalize hq3 : q1 ++ [39] = q2 at *
        replace hst := Asd.mk hst
        replace hq := Asd.mk hq
        replace hv := Asd.mk hv
        replace hq3 := Asd.mk hq3
        clear h39
        (repeat refine stp ?_)
        (refine RC (hV) ?_)
        (repeat refine stp ?_)
        refine RX [.loc 4 0, .loc 99 0] hR ?_
        (repeat refine stp ?_)
        refine RX [.loc 4 0, .loc 99 0] hW ?_
        (repeat refine stp ?_)
        exact ⟨l.length - (k + 1), by omega, k + 1, _, q2, rd, rdm, rdm, rd, rd, rd, by omega, hq2.out, hv2.out, rfl⟩
      · have hq2 : Asd (q ++ Lib.encodeRune x = 39 :: qtext (l.take (k + 1))) := ⟨by rw [hst, qtext_snoc, hq]; unfold qcell; rw [if_neg h39]; rfl⟩
        rw [decide_eq_false h39] at hE
        generalize q ++ Lib.encodeRune x = q1 at *
        replace hst := Asd.mk hst
        replace hq := Asd.mk hq
        replace hv := Asd.mk hv
        clear h39
        (repeat refine stp ?_)
        (refine RC (hV) ?_)
        (repeat refine stp ?_)
        refine RX [.loc 4 0, .loc 99 0] hR ?_
        (repeat refine stp ?_)
        exact ⟨l.length - (k + 1), by omega, k + 1, _, q1, rd, rdm, rdm, rd, rd, rd, by omega, hq2.out, hv2.out, rfl⟩
    · have hno : textQ l = (e0, false) := by
        unfold textQ
        rw [if_neg]
        intro h
        exact hvx (List.all_eq_true.1 h x hx)
      rw [hno]
      clear hno hst hq hv h0
      by_cases hw : x = wrap64 (wrap32 x)
      · have hV := vrune_den (wrap32 x)
        have hf : Lib.validRune (wrap32 x) = false := by
          cases hb : Lib.validRune (wrap32 x) with
          | false => rfl
          | true =>
            obtain ⟨y0, y1⟩ := valid_in hb
            have : wrap64 (wrap32 x) = wrap32 x := by unfold wrap64; omega
            rw [this] at hw
            rw [← hw] at hb
            exact absurd hb hvx
        rw [hf] at hV
        have hne : (x != wrap64 (wrap32 x)) = false := by rw [← hw]; simp
        generalize wrap32 x = u at *
        generalize wrap64 u = z at *
        clear hw hvx hf
        (repeat refine stp ?_)
        (refine RC (hV) ?_)
        (repeat refine stp ?_)
        exact FE
      · have hne : (x != wrap64 (wrap32 x)) = true := by simpa using hw
        generalize wrap32 x = u at *
        generalize wrap64 u = z at *
        clear hw hvx
        (repeat refine stp ?_)
        exact FE
  · have hke : k = l.length := by omega
    subst hke
    rw [List.take_length] at hq hv
    have hyes : textQ l = (ba (q ++ [39]), true) := by unfold textQ; rw [if_pos hv, hq]; rfl
    have hS := bstr_den (.ptr (.ext 0) 0 0 0) (.inr rfl) q hqz.1
    have hz := ba_size q
    have hb : ba q ++ (⟨#[39]⟩ : ByteArray) = ba (q ++ [39]) := ba_append q [39]
    have hs1 : (⟨#[39]⟩ : ByteArray).size = 1 := rfl
    rw [hyes, ← hb]
    clear hyes hb hq hv h0 hlt
    generalize ba q = t at *
    (repeat refine stp ?_)
    refine RX [.loc 4 0, .loc 99 0] hS ?_
    (repeat refine stp ?_)
    exact FE
end Go.Proofs.YtpkjiplgpgbheaaGreatDoor.V
namespace Go.Proofs.YtpkjiplgpgbheaaGreatDoor.V
open Go Go.RowKit Go.Proofs Go.Proofs.Ev Go.Proofs.YtpkjiplgpgbheaaGreatDoor Go.Proofs.YtpkjiplgpgbheaaGreatDoor.Sp Go.Proofs.YtpkjiplgpgbheaaGreatDoor.Ba
set_option maxHeartbeats 4000000
set_option maxRecDepth 100000
set_option linter.unusedSimpArgs false
set_option linter.unusedVariables false
theorem fits_den (k v : Int) : Den Tryz.prog 274 [.int .i64 k, .int .i64 v] [] (.bool (fitsB k v)) [] [] := by
  have hV := vrune_den (wrap32 v)
  have w32 : IntKind.i32.wrap v = wrap32 v := IntWalk.i32_left v
  have wb : IntKind.i64.wrap (wrap32 v) = wrap64 (wrap32 v) := IntWalk.i64_left _
  have hb : Go.bits .andNot .i64 v 1 = IntKind.i64.wrap (BitVec.ofInt IntKind.i64.bits v &&& ~~~ BitVec.ofInt IntKind.i64.bits 1).toNat := rfl
  unfold fitsB
  rw [hb]
  clear hb
  by_cases h1 : k = 1
  · subst h1
    rw [if_pos rfl]
    (refine den_walk mix Tryz.func274 rfl (by kernel_rfl) rfl [.tmp 4] rfl (by simp) ?_; simp only [bodyOf, Tryz.f274])
    (repeat refine stp ?_)
    exact FE
  rw [if_neg h1]
  by_cases h2 : k = 2
  · subst h2
    rw [if_pos rfl]
    clear hV w32 wb
    (refine den_walk mix Tryz.func274 rfl (by kernel_rfl) rfl [.tmp 4] rfl (by simp) ?_; simp only [bodyOf, Tryz.f274])
    (repeat refine stp ?_)
    exact FE
  rw [if_neg h2]
  by_cases h3 : k = 3
  case neg =>
    rw [if_neg h3]
    clear hV w32 wb
    (refine den_walk mix Tryz.func274 rfl (by kernel_rfl) rfl [.tmp 4] rfl (by simp) ?_; simp only [bodyOf, Tryz.f274])
    (repeat refine stp ?_)
    exact FE
  subst h3
  rw [if_pos rfl]
  by_cases h4 : v = wrap64 (wrap32 v)
  · rw [if_pos h4]
    replace h4 : (v == wrap64 (wrap32 v)) = true := beq_iff_eq.2 h4
    generalize wrap32 v = u at *
    generalize wrap64 u = t at *
    (refine den_walk mix Tryz.func274 rfl (by kernel_rfl) rfl [.tmp 4] rfl (by simp) ?_; simp only [bodyOf, Tryz.f274])
    (repeat refine stp ?_)
    (refine RC (hV) ?_)
    (repeat refine stp ?_)
    exact FE
  · rw [if_neg h4]
    replace h4 : (v == wrap64 (wrap32 v)) = false := beq_eq_false_iff_ne.2 h4
    generalize wrap32 v = u at *
    generalize wrap64 u = t at *
    (refine den_walk mix Tryz.func274 rfl (by kernel_rfl) rfl [.tmp 4] rfl (by simp) ?_; simp only [bodyOf, Tryz.f274])
    (repeat refine stp ?_)
    exact FE
end Go.Proofs.YtpkjiplgpgbheaaGreatDoor.V
namespace Go.Proofs.YtpkjiplgpgbheaaGreatDoor.V
open Go Go.Proofs Go.Proofs.Ev Go.Proofs.YtpkjiplgpgbheaaGreatDoor Go.Proofs.YtpkjiplgpgbheaaGreatDoor.Sp
set_option maxHeartbeats 4000000
set_option maxRecDepth 100000
set_option linter.unusedSimpArgs false
set_option linter.unusedVariables false
set_option linter.unusedSectionVars false
theorem indexFunc_int (l : List Int) (hn : l.length ≤ 1099511627776) (g : Nat) (caps : List PV) (hcap : plainA (.fn g caps) = true) (hok : okF Tryz.prog g = true) (p : Int → Bool) (hp : ∀ x ∈ l, Den Tryz.prog g ([.int .i64 x] ++ caps) [] (.bool (p x)) [] []) : Den Tryz.prog 172 [.ro (l.map eI), .fn g caps] [] (.int .i64 (idx p l 0)) [] [] := by
  (refine den_walk mix Tryz.func172 rfl (by kernel_rfl) rfl [.tmp 4] rfl (by simp) ?_; simp only [bodyOf, Tryz.f172])
  (repeat refine stp ?_)
  refine Run_loop (fun m σ => ∃ k : Nat, σ.t 0 = .ro (l.map eI) ∧ σ.t 1 = .fn g caps ∧ σ.t 7 = .int .i64 l.length ∧ σ.t 8 = .int .i64 k ∧ m = l.length - k ∧ idx p (l.drop k) k = idx p l 0 ∧ k ≤ l.length) l.length ?_ ?_
  · refine ⟨0, ?_, ?_, ?_, ?_, ?_, ?_, ?_⟩ <;> first | omega | exact rd | rfl
  · rintro m σ ⟨k, h0, h1, h7, h8, rfl, hr, hk⟩
    by_cases hl : k < l.length
    · obtain ⟨s, hs⟩ : ∃ s, l[k]? = some s := ⟨_, List.getElem?_eq_getElem hl⟩
      have hd : l.drop k = s :: l.drop (k + 1) := drop_get hs
      rw [hd] at hr
      (repeat refine stp ?_)
      have hm : s ∈ l := List.mem_of_getElem? hs
      have hca := plainA_caps hcap
      (refine RC (hp s hm) ?_)
      cases hps : p s with
      | true =>
        (repeat refine stp ?_)
        (rw [← hr]; exact FE)
      | false =>
        (repeat refine stp ?_)
        refine ⟨_, ?_, k + 1, ?_, ?_, ?_, ?_, rfl, ?_, ?_⟩
        all_goals first | omega | exact rd | (rw [← hr]; simp only [idx, hps, Bool.false_eq_true, if_false]; done)
    · have hke : k = l.length := by omega
      subst hke
      (repeat refine stp ?_)
      (rw [← hr, List.drop_length]; exact FE)
theorem containsFunc_int (l : List Int) (hn : l.length ≤ 1099511627776) (g : Nat) (caps : List PV) (hcap : plainA (.fn g caps) = true) (hok : okF Tryz.prog g = true) (p : Int → Bool) (hp : ∀ x ∈ l, Den Tryz.prog g ([.int .i64 x] ++ caps) [] (.bool (p x)) [] []) : Den Tryz.prog 103 [.ro (l.map eI), .fn g caps] [] (.bool (l.any p)) [] [] := by
  (refine den_walk mix Tryz.func103 rfl (by kernel_rfl) rfl [.tmp 4] rfl (by simp) ?_; simp only [bodyOf, Tryz.f103])
  (repeat refine stp ?_)
  (refine RC (indexFunc_int l hn g caps hcap hok p hp) ?_)
  cases ha : l.any p with
  | true =>
    have := idx_any_t (k := 0) ha
    (repeat refine stp ?_)
    exact FE
  | false =>
    have := idx_any_f (k := 0) ha
    (repeat refine stp ?_)
    exact FE
theorem indexFunc_dec (l : List Sp.Dec) (hn : l.length ≤ 1099511627776) (g : Nat) (caps : List PV) (hcap : plainA (.fn g caps) = true) (hok : okF Tryz.prog g = true) (p : Sp.Dec → Bool) (hp : ∀ x ∈ l, Den Tryz.prog g ([.agg [.int .i64 x.f0, .int .i64 x.f1]] ++ caps) [] (.bool (p x)) [] []) : Den Tryz.prog 171 [.ro (l.map eD), .fn g caps] [] (.int .i64 (idx p l 0)) [] [] := by
  (refine den_walk mix Tryz.func171 rfl (by kernel_rfl) rfl [.tmp 4] rfl (by simp) ?_; simp only [bodyOf, Tryz.f171])
  (repeat refine stp ?_)
  refine Run_loop (fun m σ => ∃ k : Nat, σ.t 0 = .ro (l.map eD) ∧ σ.t 1 = .fn g caps ∧ σ.t 7 = .int .i64 l.length ∧ σ.t 8 = .int .i64 k ∧ m = l.length - k ∧ idx p (l.drop k) k = idx p l 0 ∧ k ≤ l.length) l.length ?_ ?_
  · refine ⟨0, ?_, ?_, ?_, ?_, ?_, ?_, ?_⟩ <;> first | omega | exact rd | rfl
  · rintro m σ ⟨k, h0, h1, h7, h8, rfl, hr, hk⟩
    by_cases hl : k < l.length
    · obtain ⟨s, hs⟩ : ∃ s, l[k]? = some s := ⟨_, List.getElem?_eq_getElem hl⟩
      have hd : l.drop k = s :: l.drop (k + 1) := drop_get hs
      rw [hd] at hr
      (repeat refine stp ?_)
      have hm : s ∈ l := List.mem_of_getElem? hs
      have hca := plainA_caps hcap
      (refine RC (hp s hm) ?_)
      cases hps : p s with
      | true =>
        (repeat refine stp ?_)
        (rw [← hr]; exact FE)
      | false =>
        (repeat refine stp ?_)
        refine ⟨_, ?_, k + 1, ?_, ?_, ?_, ?_, rfl, ?_, ?_⟩
        all_goals first | omega | exact rd | (rw [← hr]; simp only [idx, hps, Bool.false_eq_true, if_false]; done)
    · have hke : k = l.length := by omega
      subst hke
      (repeat refine stp ?_)
      (rw [← hr, List.drop_length]; exact FE)
theorem containsFunc_dec (l : List Sp.Dec) (hn : l.length ≤ 1099511627776) (g : Nat) (caps : List PV) (hcap : plainA (.fn g caps) = true) (hok : okF Tryz.prog g = true) (p : Sp.Dec → Bool) (hp : ∀ x ∈ l, Den Tryz.prog g ([.agg [.int .i64 x.f0, .int .i64 x.f1]] ++ caps) [] (.bool (p x)) [] []) : Den Tryz.prog 98 [.ro (l.map eD), .fn g caps] [] (.bool (l.any p)) [] [] := by
  (refine den_walk mix Tryz.func98 rfl (by kernel_rfl) rfl [.tmp 4] rfl (by simp) ?_; simp only [bodyOf, Tryz.f98])
  (repeat refine stp ?_)
  (refine RC (indexFunc_dec l hn g caps hcap hok p hp) ?_)
  cases ha : l.any p with
  | true =>
    have := idx_any_t (k := 0) ha
    (repeat refine stp ?_)
    exact FE
  | false =>
    have := idx_any_f (k := 0) ha
    (repeat refine stp ?_)
    exact FE
theorem index_int (l : List Int) (hn : l.length ≤ 1099511627776) (y : Int) : Den Tryz.prog 232 [.ro (l.map eI), .int .i64 y] [] (.int .i64 (idx (fun x => y == x) l 0)) [] [] := by
  (refine den_walk mix Tryz.func232 rfl (by kernel_rfl) rfl [.tmp 4] rfl (by simp) ?_; simp only [bodyOf, Tryz.f232])
  (repeat refine stp ?_)
  refine Run_loop (fun m σ => ∃ k : Nat, σ.t 0 = .ro (l.map eI) ∧ σ.t 1 = .int .i64 y ∧ σ.t 7 = .int .i64 l.length ∧ σ.t 8 = .int .i64 k ∧ m = l.length - k ∧ idx (fun x => y == x) (l.drop k) k = idx (fun x => y == x) l 0 ∧ k ≤ l.length) l.length ?_ ?_
  · refine ⟨0, ?_, ?_, ?_, ?_, ?_, ?_, ?_⟩ <;> first | omega | exact rd | rfl
  · rintro m σ ⟨k, h0, h1, h7, h8, rfl, hr, hk⟩
    by_cases hl : k < l.length
    · obtain ⟨s, hs⟩ : ∃ s, l[k]? = some s := ⟨_, List.getElem?_eq_getElem hl⟩
      have hd : l.drop k = s :: l.drop (k + 1) := drop_get hs
      rw [hd] at hr
      cases hps : (y == s) with
      | true =>
        (repeat refine stp ?_)
        (rw [← hr]; exact FE)
      | false =>
        (repeat refine stp ?_)
        refine ⟨_, ?_, k + 1, ?_, ?_, ?_, ?_, rfl, ?_, ?_⟩
        all_goals first | omega | exact rd | (rw [← hr]; simp only [idx, hps, Bool.false_eq_true, if_false]; done)
    · have hke : k = l.length := by omega
      subst hke
      (repeat refine stp ?_)
      (rw [← hr, List.drop_length]; exact FE)
theorem contains_int (l : List Int) (hn : l.length ≤ 1099511627776) (y : Int) : Den Tryz.prog 170 [.ro (l.map eI), .int .i64 y] [] (.bool (l.any (fun x => y == x))) [] [] := by
  (refine den_walk mix Tryz.func170 rfl (by kernel_rfl) rfl [.tmp 4] rfl (by simp) ?_; simp only [bodyOf, Tryz.f170])
  (repeat refine stp ?_)
  (refine RC (index_int l hn y) ?_)
  cases ha : l.any (fun x => y == x) with
  | true =>
    have := idx_any_t (k := 0) ha
    (repeat refine stp ?_)
    exact FE
  | false =>
    have := idx_any_f (k := 0) ha
    (repeat refine stp ?_)
    exact FE
end Go.Proofs.YtpkjiplgpgbheaaGreatDoor.V
namespace Go.Proofs.YtpkjiplgpgbheaaGreatDoor.V
open Go Go.Proofs Go.Proofs.Ev Go.Proofs.YtpkjiplgpgbheaaGreatDoor Go.Proofs.YtpkjiplgpgbheaaGreatDoor.Sp Go.Proofs.YtpkjiplgpgbheaaGreatDoor.Ba
set_option maxRecDepth 100000
set_option maxHeartbeats 4000000
set_option linter.unusedSimpArgs false
set_option linter.unusedVariables false
set_option linter.unusedSectionVars false
theorem bad_den (n : Int) : Den Tryz.prog 169 [.int .i64 n] [] (.bool (badDim n)) [] [] := by
  (refine den_walk mix Tryz.func169 rfl (by kernel_rfl) rfl [.tmp 2] rfl (by simp) ?_; simp only [bodyOf, Tryz.f169])
  by_cases h1 : n < 0
  · have e : badDim n = true := by simp [badDim, h1]
    rw [e]
    (repeat refine stp ?_)
    exact FE
  · by_cases h2 : n > 1048576
    · have e : badDim n = true := by simp [badDim, h2]
      rw [e]
      (repeat refine stp ?_)
      exact FE
    · have e : badDim n = false := by simp [badDim]; omega
      rw [e]
      (repeat refine stp ?_)
      exact FE
theorem badDim_f {n : Int} (h : badDim n = false) : 0 ≤ n ∧ n ≤ 1048576 := by
  simp [badDim] at h
  omega
theorem count_den (s : List Int) (hn : s.length ≤ 1099511627776) : Den Tryz.prog 97 [.ro (s.map eI)] [] (.tup [.int .i64 (cnt s).1, .bool (cnt s).2]) [] [] := by
  (refine den_walk mix Tryz.func97 rfl (by kernel_rfl) rfl [.tmp 2, .tmp 3] rfl (by simp) ?_; simp only [bodyOf, Tryz.f97])
  by_cases h16 : s.length > 16
  · have e : cnt s = (0, false) := by simp [cnt, h16]
    rw [e]
    (repeat refine stp ?_)
    exact FE
  · cases hb : s.any badDim with
    | true =>
      have e : cnt s = (0, false) := by simp only [cnt, if_neg h16, hb, if_true]
      rw [e]
      (repeat refine stp ?_)
      (refine RC (containsFunc_int s hn _ [] rfl (by kernel_rfl) badDim (fun x _ => bad_den x)) ?_)
      (repeat refine stp ?_)
      exact FE
    | false =>
      (repeat refine stp ?_)
      (refine RC (containsFunc_int s hn _ [] rfl (by kernel_rfl) badDim (fun x _ => bad_den x)) ?_)
      (repeat refine stp ?_)
      (refine RC (contains_int s hn 0) ?_)
      cases h0 : s.any (fun x => 0 == x) with
      | true =>
        have h0' : s.any (fun x => decide (x = 0)) = true := by rw [← h0]; congr 1; funext x; rw [Bool.eq_iff_iff]; simp only [beq_iff_eq, decide_eq_true_eq]; exact eq_comm
        have e : cnt s = (0, true) := by simp only [cnt, if_neg h16, hb, Bool.false_eq_true, if_false, h0', if_true]
        rw [e]
        (repeat refine stp ?_)
        exact FE
      | false =>
        have h0' : s.any (fun x => decide (x = 0)) = false := by rw [← h0]; congr 1; funext x; rw [Bool.eq_iff_iff]; simp only [beq_iff_eq, decide_eq_true_eq]; exact eq_comm
        have e : cnt s = cntGo s 1 := by simp only [cnt, if_neg h16, hb, Bool.false_eq_true, if_false, h0']
        rw [e]
        (repeat refine stp ?_)
        refine Run_loop (fun m σ => ∃ (k : Nat) (n : Int), σ.t 20 = .ro (s.map eI) ∧ σ.t 4 = .fn 169 [] ∧ σ.t 5 = .int .i64 n ∧ σ.t 21 = .int .i64 s.length ∧ σ.t 22 = .int .i64 k ∧ m = s.length - k ∧ cntGo (s.drop k) n = cntGo s 1 ∧ k ≤ s.length ∧ 0 ≤ n ∧ n ≤ 1048576) s.length ?_ ?_
        · exact ⟨0, 1, rd, rd, rd, rd, rd, rfl, rfl, by omega, by omega, by omega⟩
        · rintro m σ ⟨k, n, h20, h4, h5, h21, h22, rfl, hr, hk, hn0, hn1⟩
          by_cases hl : k < s.length
          · obtain ⟨x, hs⟩ : ∃ x, s[k]? = some x := ⟨_, List.getElem?_eq_getElem hl⟩
            rw [drop_get hs] at hr
            have hx := badDim_f (List.any_eq_false.1 hb x (List.mem_of_getElem? hs) |> fun h => by simpa using h)
            have hm0 : 0 ≤ n * x := Int.mul_nonneg hn0 hx.1
            have hm1 : n * x ≤ 1048576 * 1048576 := Int.mul_le_mul hn1 hx.2 hx.1 (by omega)
            (repeat refine stp ?_)
            (refine RC (bad_den (n * x)) ?_)
            cases hbx : badDim (n * x) with
            | true =>
              (repeat refine stp ?_)
              rw [← hr, cntGo, if_pos hbx]
              exact FE
            | false =>
              have := badDim_f hbx
              (repeat refine stp ?_)
              refine ⟨_, ?_, k + 1, n * x, rd, rd, rd, rd, rd, rfl, ?_, by omega, by omega, by omega⟩
              · omega
              · rw [← hr, cntGo, if_neg (by simp [hbx])]
          · have hke : k = s.length := by omega
            subst hke
            (repeat refine stp ?_)
            rw [← hr, List.drop_length, cntGo]
            exact FE
end Go.Proofs.YtpkjiplgpgbheaaGreatDoor.V
namespace Go.Proofs.YtpkjiplgpgbheaaGreatDoor.V
open Go Go.RowKit Go.Proofs Go.Proofs.Ev Go.Proofs.YtpkjiplgpgbheaaGreatDoor Go.Proofs.YtpkjiplgpgbheaaGreatDoor.Sp Go.Proofs.YtpkjiplgpgbheaaGreatDoor.Dm Go.Proofs.YtpkjiplgpgbheaaGreatDoor.Ba Go.Proofs.YtpkjiplgpgbheaaGreatDoor.NuP Go.Proofs.YtpkjiplgpgbheaaGreatDoor.Nt
set_option maxHeartbeats 4000000
set_option maxRecDepth 100000
set_option linter.unusedSimpArgs false
set_option linter.unusedVariables false
/-- A node that can be written. -/
def smN (n : Nd) : Prop := wfN n ∧ n.f1.length ≤ 2000000 ∧ n.f2.length ≤ 2000000 ∧ n.f3.length ≤ 2000000
theorem value_den (n : Nd) (h : smN n) : Den Tryz.prog 151 [.agg (eN n)] [] (.str (ba (valueN n))) [] [] := by
  obtain ⟨hw, h1, h2, h3⟩ := h
  unfold valueN
  by_cases k3 : n.f0 = 3
  · have hQ := qtextden n.f2 hw.i (by omega)
    have e : ba (textQ n.f2).1.data.toList = (textQ n.f2).1 := ba_self _
    rw [if_pos k3, e]
    generalize textQ n.f2 = q at *
    (refine den_walk mix Tryz.func151 rfl (by kernel_rfl) rfl [.tmp 2] rfl (by simp) ?_; simp only [bodyOf, Tryz.f151])
    (repeat refine stp ?_)
    (refine RC (hQ) ?_)
    (repeat refine stp ?_)
    exact FE
  rw [if_neg k3]
  by_cases k4 : n.f0 = 4
  · have hQ := decs_den n.f3 hw.d h3
    rw [if_pos k4]
    generalize decsL n.f3 = q at *
    (refine den_walk mix Tryz.func151 rfl (by kernel_rfl) rfl [.tmp 2] rfl (by simp) ?_; simp only [bodyOf, Tryz.f151])
    (repeat refine stp ?_)
    (refine RC (hQ) ?_)
    (repeat refine stp ?_)
    exact FE
  rw [if_neg k4]
  by_cases k0 : n.f2.length = 0
  · rw [if_pos k0]
    (refine den_walk mix Tryz.func151 rfl (by kernel_rfl) rfl [.tmp 2] rfl (by simp) ?_; simp only [bodyOf, Tryz.f151])
    (repeat refine stp ?_)
    exact FE
  · have hQ := ints_den n.f2 hw.i h2
    rw [if_neg k0]
    generalize intsL n.f2 = q at *
    (refine den_walk mix Tryz.func151 rfl (by kernel_rfl) rfl [.tmp 2] rfl (by simp) ?_; simp only [bodyOf, Tryz.f151])
    (repeat refine stp ?_)
    (refine RC (hQ) ?_)
    (repeat refine stp ?_)
    exact FE
end Go.Proofs.YtpkjiplgpgbheaaGreatDoor.V
namespace Go.Proofs.YtpkjiplgpgbheaaGreatDoor.V
open Go Go.Proofs Go.Proofs.Ev Go.Proofs.YtpkjiplgpgbheaaGreatDoor Go.Proofs.YtpkjiplgpgbheaaGreatDoor.Sp Go.Proofs.YtpkjiplgpgbheaaGreatDoor.Ba
set_option maxHeartbeats 4000000
set_option maxRecDepth 100000
set_option linter.unusedSimpArgs false
set_option linter.unusedVariables false
set_option linter.unusedSectionVars false
theorem wrongs_int (l : List Int) (hn : l.length ≤ 1099511627776) (g : Nat) (caps : List PV) (hcap : plainA (.fn g caps) = true) (hok : okF Tryz.prog g = true) (p : Int → Bool) (hp : ∀ x ∈ l, Den Tryz.prog g ([.int .i64 x] ++ caps) [] (.bool (p x)) [] []) : Den Tryz.prog 275 [.ro (l.map eI), .fn g caps] [] (.bool (l.any fun x => !p x)) [] [] := by
  (refine den_walk mix Tryz.func275 rfl (by kernel_rfl) rfl [.tmp 4] rfl (by simp) ?_; simp only [bodyOf, Tryz.f275])
  (repeat refine stp ?_)
  refine Run_loop (fun m σ => ∃ k : Nat, σ.t 7 = .ro (l.map eI) ∧ σ.t 1 = .fn g caps ∧ σ.t 8 = .int .i64 l.length ∧ σ.t 9 = .int .i64 k ∧ m = l.length - k ∧ ((l.drop k).any fun x => !p x) = (l.any fun x => !p x) ∧ k ≤ l.length) l.length ?_ ?_
  · exact ⟨0, rd, rd, rd, rd, rfl, rfl, by omega⟩
  · rintro m σ ⟨k, h7, h1, h8, h9, rfl, hr, hk⟩
    by_cases hl : k < l.length
    · obtain ⟨s, hs⟩ : ∃ s, l[k]? = some s := ⟨_, List.getElem?_eq_getElem hl⟩
      rw [drop_get hs, List.any_cons] at hr
      (repeat refine stp ?_)
      have hm : s ∈ l := List.mem_of_getElem? hs
      have hca := plainA_caps hcap
      (refine RC (hp s hm) ?_)
      cases hps : p s with
      | false =>
        rw [hps] at hr
        simp only [Bool.not_false, Bool.true_or] at hr
        rw [← hr]
        clear hr
        (repeat refine stp ?_)
        exact FE
      | true =>
        rw [hps] at hr
        simp only [Bool.not_true, Bool.false_or] at hr
        (repeat refine stp ?_)
        exact ⟨_, by omega, k + 1, rd, rd, rd, rd, rfl, hr, by omega⟩
    · have hke : k = l.length := by omega
      subst hke
      (repeat refine stp ?_)
      rw [← hr, List.drop_length, List.any_nil]
      clear hr
      exact FE
theorem wrongs_dec (l : List Sp.Dec) (hn : l.length ≤ 1099511627776) (g : Nat) (caps : List PV) (hcap : plainA (.fn g caps) = true) (hok : okF Tryz.prog g = true) (p : Sp.Dec → Bool) (hp : ∀ x ∈ l, Den Tryz.prog g ([.agg [.int .i64 x.f0, .int .i64 x.f1]] ++ caps) [] (.bool (p x)) [] []) : Den Tryz.prog 276 [.ro (l.map eD), .fn g caps] [] (.bool (l.any fun x => !p x)) [] [] := by
  (refine den_walk mix Tryz.func276 rfl (by kernel_rfl) rfl [.tmp 4] rfl (by simp) ?_; simp only [bodyOf, Tryz.f276])
  (repeat refine stp ?_)
  refine Run_loop (fun m σ => ∃ k : Nat, σ.t 7 = .ro (l.map eD) ∧ σ.t 1 = .fn g caps ∧ σ.t 8 = .int .i64 l.length ∧ σ.t 9 = .int .i64 k ∧ m = l.length - k ∧ ((l.drop k).any fun x => !p x) = (l.any fun x => !p x) ∧ k ≤ l.length) l.length ?_ ?_
  · exact ⟨0, rd, rd, rd, rd, rfl, rfl, by omega⟩
  · rintro m σ ⟨k, h7, h1, h8, h9, rfl, hr, hk⟩
    by_cases hl : k < l.length
    · obtain ⟨s, hs⟩ : ∃ s, l[k]? = some s := ⟨_, List.getElem?_eq_getElem hl⟩
      rw [drop_get hs, List.any_cons] at hr
      (repeat refine stp ?_)
      have hm : s ∈ l := List.mem_of_getElem? hs
      have hca := plainA_caps hcap
      (refine RC (hp s hm) ?_)
      cases hps : p s with
      | false =>
        rw [hps] at hr
        simp only [Bool.not_false, Bool.true_or] at hr
        rw [← hr]
        clear hr
        (repeat refine stp ?_)
        exact FE
      | true =>
        rw [hps] at hr
        simp only [Bool.not_true, Bool.false_or] at hr
        (repeat refine stp ?_)
        exact ⟨_, by omega, k + 1, rd, rd, rd, rd, rfl, hr, by omega⟩
    · have hke : k = l.length := by omega
      subst hke
      (repeat refine stp ?_)
      rw [← hr, List.drop_length, List.any_nil]
      clear hr
      exact FE
end Go.Proofs.YtpkjiplgpgbheaaGreatDoor.V
namespace Go.Proofs.YtpkjiplgpgbheaaGreatDoor.V
open Go Go.Proofs Go.Proofs.Ev Go.Proofs.YtpkjiplgpgbheaaGreatDoor Go.Proofs.YtpkjiplgpgbheaaGreatDoor.Sp Go.Proofs.YtpkjiplgpgbheaaGreatDoor.Ba
set_option maxHeartbeats 4000000
set_option maxRecDepth 100000
set_option linter.unusedSimpArgs false
set_option linter.unusedVariables false
set_option linter.unusedSectionVars false
theorem fit_den (n : Sp.Nd) (v : Int) : Den Tryz.prog 273 [.int .i64 v, .rp (eN n) 0] [] (.bool (fitsB n.f0 v)) [] [] := by
  (refine den_walk mix Tryz.func273 rfl (by kernel_rfl) rfl [.tmp 3] rfl (by simp) ?_; simp only [bodyOf, Tryz.f273])
  (repeat refine stp ?_)
  (refine RC (fits_den n.f0 v) ?_)
  (repeat refine stp ?_)
  exact FE
theorem items_den (n : Sp.Nd) (h : wfN n) : Den Tryz.prog 224 [.agg (eN n)] [] (.int .i64 (Sp.items n)) [] [] := by
  (refine den_walk mix Tryz.func224 rfl (by kernel_rfl) rfl [.tmp 2] rfl (by simp) ?_; simp only [bodyOf, Tryz.f224])
  simp only [RW]
  refine R1 ?_
  refine RZ (.loc 1 0) ?_
  (repeat refine stp ?_)
  (refine RC (count_den n.f1 h.ls) ?_)
  cases hc : (cnt n.f1).2 with
  | false =>
    have e : Sp.items n = -1 := by unfold Sp.items; rw [if_pos hc]
    rw [e]
    (repeat refine stp ?_)
    exact FE
  | true =>
    have hle := cnt_le n.f1
    (repeat refine stp ?_)
    refine Run_mid 3 (fun τ => ∃ i d : Int, τ.t 1 = .rp (eN n) 0 ∧ τ.t 3 = .int .i64 (cnt n.f1).1 ∧ τ.t 5 = .int .i64 i ∧ τ.t 6 = .int .i64 d ∧ wants n.f0 (cnt n.f1).1 = some (i, d)) ?_ ?_
    · simp only [List.take_succ_cons, List.take_zero, List.drop_succ_cons, List.drop_zero, List.cons_append, List.nil_append]
      by_cases k1 : n.f0 = 1
      · (repeat refine stp ?_)
        exact ⟨(cnt n.f1).1, 0, rd, rd, rd, rd, by simp [wants, k1]⟩
      by_cases k2 : n.f0 = 2
      · (repeat refine stp ?_)
        exact ⟨(cnt n.f1).1, 0, rd, rd, rd, rd, by simp [wants, k2]⟩
      by_cases k3 : n.f0 = 3
      · (repeat refine stp ?_)
        exact ⟨(cnt n.f1).1, 0, rd, rd, rd, rd, by simp [wants, k3]⟩
      by_cases k4 : n.f0 = 4
      · (repeat refine stp ?_)
        exact ⟨0, (cnt n.f1).1, rd, rd, rd, rd, by simp [wants, k4]⟩
      by_cases k5 : n.f0 = 5
      · (repeat refine stp ?_)
        exact ⟨0, 0, rd, rd, rd, rd, by simp [wants, k5]⟩
      · have e : Sp.items n = -1 := by unfold Sp.items; simp [hc, wants, k1, k2, k3, k4, k5]
        rw [e]
        (repeat refine stp ?_)
        exact FE
    · simp only [List.drop_succ_cons, List.drop_zero]
      rintro τ ⟨i, d, h1, h3, h5, h6, hw⟩
      have e0 : Sp.items n = if (n.f2.length : Int) ≠ i then -1 else if (n.f3.length : Int) ≠ d then -1 else if n.f2.any (fun x => !fitsB n.f0 x) then -1 else if n.f3.any (fun x => !rightB x) then -1 else (cnt n.f1).1 := by
        unfold Sp.items
        rw [if_neg (by simp [hc]), hw]
      rw [e0]
      clear e0 hw
      by_cases c1 : (n.f2.length : Int) ≠ i
      · rw [if_pos c1]
        (repeat refine stp ?_)
        exact FE
      rw [if_neg c1]
      by_cases c2 : (n.f3.length : Int) ≠ d
      · rw [if_pos c2]
        (repeat refine stp ?_)
        exact FE
      rw [if_neg c2]
      (repeat refine stp ?_)
      (refine RC (wrongs_int n.f2 h.li _ [.rp (eN n) 0] rfl (by kernel_rfl) (fitsB n.f0) (fun x _ => fit_den n x)) ?_)
      cases c3 : n.f2.any (fun x => !fitsB n.f0 x) with
      | true =>
        rw [if_pos rfl]
        (repeat refine stp ?_)
        exact FE
      | false =>
        rw [if_neg (by simp)]
        (repeat refine stp ?_)
        (refine RC (wrongs_dec n.f3 h.ld _ [] rfl (by kernel_rfl) rightB (fun x hx => right_den x (h.d x hx))) ?_)
        cases c4 : n.f3.any (fun x => !rightB x) with
        | true =>
          rw [if_pos rfl]
          (repeat refine stp ?_)
          exact FE
        | false =>
          rw [if_neg (by simp)]
          (repeat refine stp ?_)
          exact FE
end Go.Proofs.YtpkjiplgpgbheaaGreatDoor.V
namespace Go.Proofs.YtpkjiplgpgbheaaGreatDoor.V
open Go Go.Proofs Go.Proofs.Ev Go.Proofs.YtpkjiplgpgbheaaGreatDoor Go.Proofs.YtpkjiplgpgbheaaGreatDoor.Sp Go.Proofs.YtpkjiplgpgbheaaGreatDoor.Ba
set_option maxHeartbeats 4000000
set_option maxRecDepth 100000
set_option linter.unusedSimpArgs false
set_option linter.unusedVariables false
set_option linter.unusedSectionVars false
/-- A stack as it lies: the last one on top. -/
def Stk (rs : List (List PV)) (st : List Int) : Prop := rs.take st.length = st.reverse.map eI ∧ st.length ≤ rs.length
theorem Stk.top {rs : List (List PV)} {y : Int} {r : List Int} (h : Stk rs (y :: r)) : rs[r.length]? = some (eI y) ∧ r.length < rs.length ∧ Stk rs r := by
  obtain ⟨h1, h2⟩ := h
  rw [List.length_cons] at h1 h2
  have h3 : (rs.take (r.length + 1))[r.length]? = some (eI y) := by
    rw [h1]
    simp
  rw [List.getElem?_take, if_pos (by omega)] at h3
  refine ⟨h3, by omega, ?_, by omega⟩
  have := congrArg (List.take r.length) h1
  rw [List.take_take, Nat.min_eq_left (by omega)] at this
  rw [this]
  simp
theorem Stk.set {rs : List (List PV)} {z : Int} {r : List Int} (h : Stk rs r) (hl : r.length < rs.length) : Stk (rs.set r.length (eI z)) (z :: r) := by
  obtain ⟨h1, h2⟩ := h
  refine ⟨?_, by simp; omega⟩
  refine List.ext_getElem? (fun i => ?_)
  rw [List.length_cons, List.getElem?_take]
  by_cases hi : i < r.length
  · rw [if_pos (by omega), List.getElem?_set_ne (by omega)]
    have := congrArg (fun l => l[i]?) h1
    simp only [List.getElem?_take, if_pos hi] at this
    rw [this]
    simp [List.getElem?_append_left, hi]
  · by_cases he : i = r.length
    · subst he
      rw [if_pos (by omega), List.getElem?_set_self hl]
      simp
    · rw [if_neg (by omega)]
      rw [List.getElem?_eq_none (by simp; omega)]
theorem Stk.push {rs : List (List PV)} {c : Int} {st : List Int} (h : Stk rs st) : Stk (rs.take st.length ++ [eI c]) (c :: st) := by
  obtain ⟨h1, h2⟩ := h
  refine ⟨?_, by simp; omega⟩
  rw [h1, List.take_of_length_le (by simp)]
  simp
theorem push_nest {n : Sp.Nd} {c : Int} {st : List Int} (h : n.f0 = 5) : push n c st = c :: st := by unfold push; rw [if_pos h]
theorem push_leaf {n : Sp.Nd} {c y : Int} {r : List Int} (h : ¬ n.f0 = 5) : push n c (y :: r) = (y - 1) :: r := by unfold push; rw [if_neg h]
theorem push_none {n : Sp.Nd} {c : Int} (h : ¬ n.f0 = 5) : push n c [] = [] := by unfold push; rw [if_neg h]
theorem walk_den (a : List Sp.Nd) (ha : a.length ≤ 1099511627776) (hw : ∀ n ∈ a, wfN n) : Den Tryz.prog 162 [.ro (a.map eN)] [] (.tup [.int .i64 (walk a).1, .int .i64 (walk a).2.1, .int .i64 (walk a).2.2]) [] [] := by
  (refine den_walk mix Tryz.func162 rfl (by kernel_rfl) rfl [.tmp 2, .tmp 3, .tmp 4] rfl (by simp) ?_; simp only [bodyOf, Tryz.f162])
  (repeat refine stp ?_)
  refine Run_loop (fun m σ => ∃ (k : Nat) (all deep : Int) (st : List Int) (v : Nat) (rs : List (List PV)), σ.t 9 = .ro (a.map eN) ∧ σ.t 10 = .int .i64 a.length ∧ σ.t 11 = .int .i64 k ∧ σ.t 3 = .int .i64 all ∧ σ.t 4 = .int .i64 deep ∧ σ.t 5 = .own (.loc 5 0) v st.length ∧ σ.m (.loc 5 0) = ⟨v, some (.rows true 3 1 rs)⟩ ∧
    Stk rs st ∧ m = a.length - k ∧ walkL (a.drop k) k all deep st = walk a ∧ k ≤ a.length ∧ Ge1 st ∧ st.length ≤ 16 ∧ 0 ≤ all ∧ all ≤ 1048576 ∧ 0 ≤ deep ∧ deep ≤ 17) a.length ?_ ?_
  · exact ⟨0, 0, 0, [], _, [], rd, rd, rd, rd, rd, rd, rfl, ⟨rfl, Nat.le_refl 0⟩, rfl, rfl, by omega, (fun y hy => by cases hy), (by simp : ([] : List Int).length ≤ 16), by omega, by omega, by omega, by omega⟩
  · rintro m σ ⟨k, all, deep, st, v, rs, h9, h10, h11, h3, h4, h5, hm, hS, rfl, hr, hk, hg, hst, ha0, ha1, hd0, hd1⟩
    by_cases hl : k < a.length
    · obtain ⟨n, hs⟩ : ∃ n, a[k]? = some n := ⟨_, List.getElem?_eq_getElem hl⟩
      rw [drop_get hs, walkL] at hr
      have hwn := hw n (List.mem_of_getElem? hs)
      have hit := items_le n
      (repeat refine stp ?_)
      (refine RC (items_den n hwn) ?_)
      generalize items n = c at *
      by_cases c1 : c < 0
      · rw [if_pos (.inl c1)] at hr
        rw [← hr]
        clear hr
        (repeat refine stp ?_)
        exact FE
      by_cases c2 : all + c > 1048576
      · rw [if_pos (.inr (.inl c2))] at hr
        rw [← hr]
        clear hr
        (repeat refine stp ?_)
        exact FE
      by_cases c3 : st.length ≥ 16
      · rw [if_pos (.inr (.inr c3))] at hr
        rw [← hr]
        clear hr
        (repeat refine stp ?_)
        exact FE
      rw [if_neg (by omega)] at hr
      generalize hR : walk a = R at *
      clear hR
      replace hr := Asd.mk hr
      (repeat refine stp ?_)
      have hmx : (if deep < (st.length : Int) + 1 then (st.length : Int) + 1 else deep) = max deep ((st.length : Int) + 1) := by omega
      have hD1 : 0 ≤ max deep ((st.length : Int) + 1) ∧ max deep ((st.length : Int) + 1) ≤ 17 := by omega
      generalize max deep ((st.length : Int) + 1) = D at *
      have hS2 := hS.2
      refine Run_mid 1 (fun τ => ∃ (v : Nat) (rs : List (List PV)), τ.t 9 = .ro (a.map eN) ∧ τ.t 10 = .int .i64 a.length ∧ τ.t 11 = .int .i64 k ∧ τ.t 3 = .int .i64 (all + c) ∧ τ.t 4 = .int .i64 D ∧ τ.t 6 = .int .i64 k ∧ τ.t 5 = .own (.loc 5 0) v (push n c st).length ∧ τ.m (.loc 5 0) = ⟨v, some (.rows true 3 1 rs)⟩ ∧ Stk rs (push n c st)) ?_ ?_
      · simp only [List.take_succ_cons, List.take_zero, List.drop_succ_cons, List.drop_zero, List.cons_append, List.nil_append]
        by_cases k5 : n.f0 = 5
        · rw [push_nest k5]
          (repeat refine stp ?_)
          exact ⟨_, _, rd, rd, rd, rd, rd, rd, rd, rdm, hS.push⟩
        · cases st with
          | nil =>
            rw [push_none k5]
            simp only [go_sem, Int.reduceAdd] at hmx
            (repeat refine stp ?_)
            exact ⟨_, _, rd, rd, rd, rd, rd, rd, rd, rdm, hS⟩
          | cons y r =>
            rw [push_leaf k5]
            obtain ⟨q1, q2, q3⟩ := hS.top
            have hy := hg y (by simp)
            simp only [go_sem, Int.reduceAdd] at hmx
            have q4 : ((r.length : Int) + 1 - 1).toNat = r.length := by omega
            (repeat refine stp ?_)
            exact ⟨_, _, rd, rd, rd, rd, rd, rd, rd, rdm, q3.set q2⟩
      · simp only [List.drop_succ_cons, List.drop_zero]
        rintro τ ⟨v, rs, h9, h10, h11, h3, h4, h6, h5, hm, hS⟩
        have hg2 : (∀ y ∈ (push n c st).tail, 1 ≤ y ∧ y ≤ 1048576) ∧ (push n c st).length ≤ 16 ∧ (∀ y ∈ push n c st, 0 ≤ y ∧ y ≤ 1048576) := by
          by_cases k5 : n.f0 = 5
          · rw [push_nest k5]
            refine ⟨(fun y hy => hg y hy), (by simp; omega), (fun y hy => ?_)⟩
            rcases List.mem_cons.1 hy with rfl | hy
            · omega
            · have := hg y hy; omega
          · cases st with
            | nil => rw [push_none k5]; exact ⟨(fun y hy => by cases hy), (by simp), (fun y hy => by cases hy)⟩
            | cons z r =>
              rw [push_leaf k5]
              simp only [List.length_cons] at hst
              refine ⟨(fun y hy => hg y (by simp [show y ∈ r from hy])), (by simp; omega), (fun y hy => ?_)⟩
              have hz := hg z (by simp)
              rcases List.mem_cons.1 hy with rfl | hy
              · omega
              · have := hg y (by simp [hy]); omega
        clear hg hst hS2 hmx c3
        generalize push n c st = st1 at *
        obtain ⟨g1, g2, g3⟩ := hg2
        (repeat refine stp ?_)
        refine Run_loop (fun m τ => ∃ (st2 : List Int) (v : Nat) (rs : List (List PV)), τ.t 9 = .ro (a.map eN) ∧ τ.t 10 = .int .i64 a.length ∧ τ.t 11 = .int .i64 k ∧ τ.t 3 = .int .i64 (all + c) ∧ τ.t 4 = .int .i64 D ∧ τ.t 6 = .int .i64 k ∧ τ.t 5 = .own (.loc 5 0) v st2.length ∧ τ.m (.loc 5 0) = ⟨v, some (.rows true 3 1 rs)⟩ ∧ Stk rs st2 ∧
          m = st2.length ∧ pops st2 = pops st1 ∧ (∀ y ∈ st2.tail, 1 ≤ y ∧ y ≤ 1048576) ∧ st2.length ≤ 16 ∧ (∀ y ∈ st2, 0 ≤ y ∧ y ≤ 1048576)) st1.length ?_ ?_
        · exact ⟨st1, v, rs, rd, rd, rd, rd, rd, rd, rd, rdm, hS, rfl, rfl, g1, g2, g3⟩
        clear h9 h10 h11 h3 h4 h5 h6 hm hS g1 g2 g3
        rintro m ρ ⟨st2, v, rs, h9, h10, h11, h3, h4, h6, h5, hm, hS, rfl, hp, g1, g2, g3⟩
        cases st2 with
        | nil =>
          have hr := hr.out
          rw [if_pos (by rw [← hp]; rfl)] at hr
          rw [← hr]
          clear hr hp g1 g2 g3
          (repeat refine stp ?_)
          exact FE
        | cons x r =>
          obtain ⟨q1, q2, q3⟩ := hS.top
          have q4 : ((r.length : Int) + 1 - 1).toNat = r.length := by omega
          simp only [List.tail_cons] at g1
          simp only [List.length_cons] at g2
          have hx := g3 x (by simp)
          by_cases hx0 : x = 0
          · subst hx0
            (repeat refine stp ?_)
            cases r with
            | nil =>
              (repeat refine stp ?_)
              exact ⟨_, (by simp : 0 < ([0] : List Int).length), [], v, rs, rd, rd, rd, rd, rd, rd, rd, rdm, q3, rfl, (by rw [← hp]; rfl), g1, by simp, (fun y hy => by cases hy)⟩
            | cons y r =>
              obtain ⟨q5, q6, q7⟩ := q3.top
              have hy := g1 y (by simp)
              have q8 : ((r.length : Int) + 1 - 1).toNat = r.length := by omega
              clear q1 q2 q4
              simp only [List.length_cons] at g2
              (repeat refine stp ?_)
              exact ⟨_, (by simp : (y :: r).length < (0 :: y :: r).length), (y - 1) :: r, v, _, rd, rd, rd, rd, rd, rd, rd, rdm, q7.set q6, by simp, (by rw [← hp, pops_two]), (fun z hz => g1 z (by simp [show z ∈ r from hz])), (by simp only [List.length_cons]; omega), (fun z hz => by
                rcases List.mem_cons.1 hz with rfl | hz
                · omega
                · have := g1 z (by simp [hz]); omega)⟩
          · have hr := hr.out
            rw [← hp, pops_stop r hx0, if_neg (by simp)] at hr
            replace hr := Asd.mk hr
            (repeat refine stp ?_)
            refine ⟨_, ?_, k + 1, all + c, D, x :: r, v, rs, rd, rd, rd, rd, rd, rd, rdm, hS, rfl, ?_, by omega, ?_, ?_, by omega, by omega, by omega, by omega⟩
            · omega
            · rw [← hr.out]; simp
            · intro z hz
              rcases List.mem_cons.1 hz with rfl | hz
              · omega
              · exact g1 z hz
            · simp only [List.length_cons]; omega
    · have hke : k = a.length := by omega
      subst hke
      rw [List.drop_length, walkL] at hr
      rw [← hr]
      clear hr
      (repeat refine stp ?_)
      exact FE
end Go.Proofs.YtpkjiplgpgbheaaGreatDoor.V
namespace Go.Proofs.YtpkjiplgpgbheaaGreatDoor.V
open Go Go.Proofs Go.Proofs.Ev Go.Proofs.YtpkjiplgpgbheaaGreatDoor Go.Proofs.YtpkjiplgpgbheaaGreatDoor.Sp Go.Proofs.YtpkjiplgpgbheaaGreatDoor.Ba
set_option maxHeartbeats 4000000
set_option maxRecDepth 100000
set_option linter.unusedSimpArgs false
set_option linter.unusedVariables false
set_option linter.unusedSectionVars false
theorem take_den (a : List Sp.Nd) (ha : a.length ≤ 1099511627776) (hw : ∀ n ∈ a, wfN n) : Den Tryz.prog 88 [.ro (a.map eN)] [] (.int .i64 (takeL a)) [] [] := by
  (refine den_walk mix Tryz.func88 rfl (by kernel_rfl) rfl [.tmp 2] rfl (by simp) ?_; simp only [bodyOf, Tryz.f88])
  (repeat refine stp ?_)
  (refine RC (walk_den a ha hw) ?_)
  unfold takeL
  (repeat refine stp ?_)
  exact FE
theorem right_arr (a : List Sp.Nd) (ha : a.length ≤ 1099511627776) (hw : ∀ n ∈ a, wfN n) : Den Tryz.prog 87 [.ro (a.map eN)] [] (.bool (rightL a)) [] [] := by
  (refine den_walk mix Tryz.func87 rfl (by kernel_rfl) rfl [.tmp 2] rfl (by simp) ?_; simp only [bodyOf, Tryz.f87])
  by_cases h0 : 0 < a.length
  · have e : rightL a = (takeL a == (a.length : Int)) := by unfold rightL; rw [decide_eq_true h0, Bool.true_and, Bool.eq_iff_iff]; simp
    rw [e]
    (repeat refine stp ?_)
    (refine RC (take_den a ha hw) ?_)
    (repeat refine stp ?_)
    exact FE
  · have e : rightL a = false := by unfold rightL; rw [decide_eq_false h0, Bool.false_and]
    rw [e]
    (repeat refine stp ?_)
    exact FE
end Go.Proofs.YtpkjiplgpgbheaaGreatDoor.V
namespace Go.Proofs.YtpkjiplgpgbheaaGreatDoor.V
open Go Go.Proofs Go.Proofs.Ev Go.Proofs.YtpkjiplgpgbheaaGreatDoor Go.Proofs.YtpkjiplgpgbheaaGreatDoor.Sp Go.Proofs.YtpkjiplgpgbheaaGreatDoor.Ba
set_option maxHeartbeats 4000000
set_option maxRecDepth 100000
set_option linter.unusedSimpArgs false
set_option linter.unusedVariables false
set_option linter.unusedSectionVars false
def eqBy {α : Type} (p : α → α → Bool) : List α → List α → Bool
  | x :: l, y :: r => p x y && eqBy p l r
  | _, _ => true
/-- Two rows are the same. -/
def same {α : Type} (p : α → α → Bool) (a b : List α) : Bool := decide (a.length = b.length) && eqBy p a b
def pI (x y : Int) : Bool := x == y
def pD (x y : Sp.Dec) : Bool := x.f0 == y.f0 && x.f1 == y.f1
theorem equal_int (a b : List Int) (ha : a.length ≤ 1099511627776) (hb : b.length ≤ 1099511627776) : Den Tryz.prog 160 [.ro (a.map eI), .ro (b.map eI)] [] (.bool (same pI a b)) [] [] := by
  (refine den_walk mix Tryz.func160 rfl (by kernel_rfl) rfl [.tmp 4] rfl (by simp) ?_; simp only [bodyOf, Tryz.f160])
  unfold same
  by_cases hl : a.length = b.length
  · rw [decide_eq_true hl, Bool.true_and]
    (repeat refine stp ?_)
    refine Run_loop (fun m σ => ∃ k : Nat, σ.t 0 = .ro (a.map eI) ∧ σ.t 1 = .ro (b.map eI) ∧ σ.t 12 = .int .i64 a.length ∧ σ.t 13 = .int .i64 k ∧ m = a.length - k ∧ eqBy pI (a.drop k) (b.drop k) = eqBy pI a b ∧ k ≤ a.length) a.length ?_ ?_
    · exact ⟨0, rd, rd, rd, rd, rfl, rfl, by omega⟩
    · rintro m σ ⟨k, h0, h1, h12, h13, rfl, hr, hk⟩
      by_cases hk1 : k < a.length
      · obtain ⟨x, hx⟩ : ∃ x, a[k]? = some x := ⟨_, List.getElem?_eq_getElem hk1⟩
        obtain ⟨y, hy⟩ : ∃ y, b[k]? = some y := ⟨_, List.getElem?_eq_getElem (by omega)⟩
        rw [drop_get hx, drop_get hy, eqBy] at hr
        by_cases c0 : x = y
        · skip
          have e : pI x y = true := by simp [pI, c0]
          rw [e, Bool.true_and] at hr
          clear e
          replace hr := Asd.mk hr
          (repeat refine stp ?_)
          exact ⟨_, by omega, k + 1, rd, rd, rd, rd, rfl, hr.out, by omega⟩
        · skip
          have e : pI x y = false := by simp [pI, c0]
          rw [e, Bool.false_and] at hr
          clear e
          rw [← hr]
          clear hr
          (repeat refine stp ?_)
          exact FE
      · have hke : k = a.length := by omega
        subst hke
        rw [List.drop_length, eqBy] at hr
        rw [← hr]
        clear hr
        (repeat refine stp ?_)
        exact FE
        intros; simp_all
  · rw [decide_eq_false hl, Bool.false_and]
    (repeat refine stp ?_)
    exact FE
theorem equal_dec (a b : List Sp.Dec) (ha : a.length ≤ 1099511627776) (hb : b.length ≤ 1099511627776) : Den Tryz.prog 161 [.ro (a.map eD), .ro (b.map eD)] [] (.bool (same pD a b)) [] [] := by
  (refine den_walk mix Tryz.func161 rfl (by kernel_rfl) rfl [.tmp 4] rfl (by simp) ?_; simp only [bodyOf, Tryz.f161])
  unfold same
  by_cases hl : a.length = b.length
  · rw [decide_eq_true hl, Bool.true_and]
    (repeat refine stp ?_)
    refine Run_loop (fun m σ => ∃ k : Nat, σ.t 0 = .ro (a.map eD) ∧ σ.t 1 = .ro (b.map eD) ∧ σ.t 12 = .int .i64 a.length ∧ σ.t 13 = .int .i64 k ∧ m = a.length - k ∧ eqBy pD (a.drop k) (b.drop k) = eqBy pD a b ∧ k ≤ a.length) a.length ?_ ?_
    · exact ⟨0, rd, rd, rd, rd, rfl, rfl, by omega⟩
    · rintro m σ ⟨k, h0, h1, h12, h13, rfl, hr, hk⟩
      by_cases hk1 : k < a.length
      · obtain ⟨x, hx⟩ : ∃ x, a[k]? = some x := ⟨_, List.getElem?_eq_getElem hk1⟩
        obtain ⟨y, hy⟩ : ∃ y, b[k]? = some y := ⟨_, List.getElem?_eq_getElem (by omega)⟩
        rw [drop_get hx, drop_get hy, eqBy] at hr
        cases c0 : (x.f0 == y.f0) with
        | true =>
          cases c1 : (x.f1 == y.f1) with
          | true =>
            have e : pD x y = true := by simp [pD, c0, c1]
            rw [e, Bool.true_and] at hr
            clear e
            replace hr := Asd.mk hr
            (repeat refine stp ?_)
            exact ⟨_, by omega, k + 1, rd, rd, rd, rd, rfl, hr.out, by omega⟩
          | false =>
            have e : pD x y = false := by simp [pD, c0, c1]
            rw [e, Bool.false_and] at hr
            clear e
            rw [← hr]
            clear hr
            (repeat refine stp ?_)
            exact FE
        | false =>
          cases c1 : (x.f1 == y.f1) with
          | true =>
            have e : pD x y = false := by simp [pD, c0, c1]
            rw [e, Bool.false_and] at hr
            clear e
            rw [← hr]
            clear hr
            (repeat refine stp ?_)
            exact FE
          | false =>
            have e : pD x y = false := by simp [pD, c0, c1]
            rw [e, Bool.false_and] at hr
            clear e
            rw [← hr]
            clear hr
            (repeat refine stp ?_)
            exact FE
      · have hke : k = a.length := by omega
        subst hke
        rw [List.drop_length, eqBy] at hr
        rw [← hr]
        clear hr
        (repeat refine stp ?_)
        exact FE
        intros; simp_all
  · rw [decide_eq_false hl, Bool.false_and]
    (repeat refine stp ?_)
    exact FE
end Go.Proofs.YtpkjiplgpgbheaaGreatDoor.V
namespace Go.Proofs.YtpkjiplgpgbheaaGreatDoor.V
open Go Go.Proofs Go.Proofs.Ev Go.Proofs.YtpkjiplgpgbheaaGreatDoor Go.Proofs.YtpkjiplgpgbheaaGreatDoor.Sp Go.Proofs.YtpkjiplgpgbheaaGreatDoor.Ba
set_option maxHeartbeats 4000000
set_option maxRecDepth 100000
set_option linter.unusedSimpArgs false
set_option linter.unusedVariables false
set_option linter.unusedSectionVars false
def pN (x y : Sp.Nd) : Bool := x.f0 == y.f0 && (same pI x.f1 y.f1 && (same pI x.f2 y.f2 && same pD x.f3 y.f3))
theorem same1_den (x y : Sp.Nd) (hx : wfN x) (hy : wfN y) : Den Tryz.prog 159 [.agg (eN x), .agg (eN y)] [] (.bool (pN x y)) [] [] := by
  (refine den_walk mix Tryz.func159 rfl (by kernel_rfl) rfl [.tmp 4] rfl (by simp) ?_; simp only [bodyOf, Tryz.f159])
  obtain ⟨_, _, _, _, a1, a2, a3⟩ := hx
  obtain ⟨_, _, _, _, b1, b2, b3⟩ := hy
  by_cases h0 : x.f0 = y.f0
  · have e : pN x y = (same pI x.f1 y.f1 && (same pI x.f2 y.f2 && same pD x.f3 y.f3)) := by simp [pN, h0]
    rw [e]
    clear e
    (repeat refine stp ?_)
    (refine RC (equal_int x.f1 y.f1 a1 b1) ?_)
    cases s1 : same pI x.f1 y.f1 with
    | false =>
      (repeat refine stp ?_)
      exact FE
    | true =>
      (repeat refine stp ?_)
      (refine RC (equal_int x.f2 y.f2 a2 b2) ?_)
      cases s2 : same pI x.f2 y.f2 with
      | false =>
        (repeat refine stp ?_)
        exact FE
      | true =>
        (repeat refine stp ?_)
        (refine RC (equal_dec x.f3 y.f3 a3 b3) ?_)
        cases s3 : same pD x.f3 y.f3 with
        | false =>
          (repeat refine stp ?_)
          exact FE
        | true =>
          (repeat refine stp ?_)
          exact FE
  · have e : pN x y = false := by simp [pN, h0]
    rw [e]
    clear e
    (repeat refine stp ?_)
    exact FE
theorem equalFunc_node (a b : List Sp.Nd) (ha : a.length ≤ 1099511627776) (hb : b.length ≤ 1099511627776) (g : Nat) (hok : okF Tryz.prog g = true) (p : Sp.Nd → Sp.Nd → Bool) (hp : ∀ x ∈ a, ∀ y ∈ b, Den Tryz.prog g [.agg (eN x), .agg (eN y)] [] (.bool (p x y)) [] []) : Den Tryz.prog 158 [.ro (a.map eN), .ro (b.map eN), .fn g []] [] (.bool (same p a b)) [] [] := by
  (refine den_walk mix Tryz.func158 rfl (by kernel_rfl) rfl [.tmp 6] rfl (by simp) ?_; simp only [bodyOf, Tryz.f158])
  unfold same
  by_cases hl : a.length = b.length
  · rw [decide_eq_true hl, Bool.true_and]
    (repeat refine stp ?_)
    refine Run_loop (fun m σ => ∃ k : Nat, σ.t 15 = .ro (a.map eN) ∧ σ.t 1 = .ro (b.map eN) ∧ σ.t 2 = .fn g [] ∧ σ.t 16 = .int .i64 a.length ∧ σ.t 17 = .int .i64 k ∧ m = a.length - k ∧ eqBy p (a.drop k) (b.drop k) = eqBy p a b ∧ k ≤ a.length) a.length ?_ ?_
    · exact ⟨0, rd, rd, rd, rd, rd, rfl, rfl, by omega⟩
    · rintro m σ ⟨k, h0, h1, h2, h12, h13, rfl, hr, hk⟩
      by_cases hk1 : k < a.length
      · obtain ⟨x, hx⟩ : ∃ x, a[k]? = some x := ⟨_, List.getElem?_eq_getElem hk1⟩
        obtain ⟨y, hy⟩ : ∃ y, b[k]? = some y := ⟨_, List.getElem?_eq_getElem (by omega)⟩
        rw [drop_get hx, drop_get hy, eqBy] at hr
        replace hr := Asd.mk hr
        (repeat refine stp ?_)
        (refine RC (hp x (List.mem_of_getElem? hx) y (List.mem_of_getElem? hy)) ?_)
        cases c0 : p x y with
        | true =>
          (repeat refine stp ?_)
          exact ⟨_, by omega, k + 1, rd, rd, rd, rd, rd, rfl, by rw [← hr.out, c0, Bool.true_and], by omega⟩
        | false =>
          have hr := hr.out
          rw [c0, Bool.false_and] at hr
          rw [← hr]
          clear hr
          (repeat refine stp ?_)
          exact FE
      · have hke : k = a.length := by omega
        subst hke
        rw [List.drop_length, eqBy] at hr
        rw [← hr]
        clear hr
        (repeat refine stp ?_)
        exact FE
        intros; simp_all
  · rw [decide_eq_false hl, Bool.false_and]
    (repeat refine stp ?_)
    exact FE
theorem same_den (a b : List Sp.Nd) (ha : a.length ≤ 1099511627776) (hb : b.length ≤ 1099511627776) (hwa : ∀ n ∈ a, wfN n) (hwb : ∀ n ∈ b, wfN n) : Den Tryz.prog 86 [.ro (a.map eN), .ro (b.map eN)] [] (.bool (same pN a b)) [] [] := by
  (refine den_walk mix Tryz.func86 rfl (by kernel_rfl) rfl [.tmp 4] rfl (by simp) ?_; simp only [bodyOf, Tryz.f86])
  (repeat refine stp ?_)
  (refine RC (equalFunc_node a b ha hb _ (by kernel_rfl) pN (fun x hx y hy => same1_den x y (hwa x hx) (hwb y hy))) ?_)
  (repeat refine stp ?_)
  exact FE
end Go.Proofs.YtpkjiplgpgbheaaGreatDoor.V
namespace Go.Proofs.YtpkjiplgpgbheaaGreatDoor.V
open Go Go.Proofs Go.Proofs.Ev Go.Proofs.YtpkjiplgpgbheaaGreatDoor Go.Proofs.YtpkjiplgpgbheaaGreatDoor.Sp Go.Proofs.YtpkjiplgpgbheaaGreatDoor.Ba
set_option maxHeartbeats 4000000
set_option maxRecDepth 100000
set_option linter.unusedSimpArgs false
set_option linter.unusedVariables false
set_option linter.unusedSectionVars false
theorem eI_take (acc : List Int) : (acc.map eI).take acc.length = acc.map eI := List.take_of_length_le (by simp)
theorem wholes_den (l : List Sp.Dec) (hn : l.length ≤ 1048576) (hw : ∀ d ∈ l, wfD d) : Den Tryz.prog 100 [.ro (l.map eD)] [] (.tup [.ro ((wholeL l []).1.map eI), .bool (wholeL l []).2]) [] [] := by
  (refine den_walk mix Tryz.func100 rfl (by kernel_rfl) rfl [.tmp 2, .tmp 3] rfl (by simp) ?_; simp only [bodyOf, Tryz.f100])
  (repeat refine stp ?_)
  refine Run_loop (fun m σ => ∃ (k : Nat) (acc : List Int) (v : Nat), σ.t 9 = .ro (l.map eD) ∧ σ.t 10 = .int .i64 l.length ∧ σ.t 11 = .int .i64 k ∧ σ.t 4 = .own (.loc 4 0) v acc.length ∧ σ.m (.loc 4 0) = ⟨v, some (.rows true 3 1 (acc.map eI))⟩ ∧ m = l.length - k ∧ wholeL (l.drop k) acc = wholeL l [] ∧ k ≤ l.length ∧ acc.length = k) l.length ?_ ?_
  · exact ⟨0, [], _, rd, rd, rd, rd, rdm, rfl, rfl, by omega, rfl⟩
  · rintro m σ ⟨k, acc, v, h9, h10, h11, h4, hm, rfl, hr, hk, hac⟩
    by_cases hl : k < l.length
    · obtain ⟨d, hs⟩ : ∃ d, l[k]? = some d := ⟨_, List.getElem?_eq_getElem hl⟩
      rw [drop_get hs, wholeL] at hr
      replace hr := Asd.mk hr
      have htk := eI_take acc; rw [hac] at htk
      (repeat refine stp ?_)
      (refine RC (whole_den d (hw d (List.mem_of_getElem? hs))) ?_)
      cases hb : (wholeB d).2 with
      | false =>
        have hr := hr.out
        rw [hb, if_neg (by simp)] at hr
        rw [← hr]
        clear hr
        (repeat refine stp ?_)
        exact FZ (.loc 2 0)
      | true =>
        have hr := hr.out
        rw [hb, if_pos rfl] at hr
        replace hr := Asd.mk hr
        (repeat refine stp ?_)
        exact ⟨_, by omega, k + 1, acc ++ [(wholeB d).1], v + 1, rd, rd, rd, by (first | exact rd | (simp only [List.length_append]; exact rd)), by (simp only [List.map_append]; exact rdm), rfl, hr.out, by omega, by simp [hac]⟩
    · have hke : k = l.length := by omega
      subst hke
      rw [List.drop_length, wholeL] at hr
      rw [← hr]
      clear hr
      have htk := eI_take acc; rw [hac] at htk
      (repeat refine stp ?_)
      exact FZ (.loc 4 0)
end Go.Proofs.YtpkjiplgpgbheaaGreatDoor.V
namespace Go.Proofs.YtpkjiplgpgbheaaGreatDoor.V
open Go Go.Proofs Go.Proofs.Ev Go.Proofs.YtpkjiplgpgbheaaGreatDoor Go.Proofs.YtpkjiplgpgbheaaGreatDoor.Sp Go.Proofs.YtpkjiplgpgbheaaGreatDoor.Ba
set_option maxHeartbeats 4000000
set_option maxRecDepth 100000
set_option linter.unusedSimpArgs false
set_option linter.unusedVariables false
set_option linter.unusedSectionVars false
theorem take_allm {α β : Type} (f : α → β) (l : List α) : (l.map f).take l.length = l.map f := List.take_of_length_le (by simp)
theorem all_eI (l : List Int) : ((l.map eI).all fun r => decide (r.length = 1) && r.all PV.sf) = true := by
  rw [List.all_map, List.all_eq_true]
  intro x _
  rfl
theorem len_eI (l : List Int) : ((l.map eI).all fun r => r.length == 1) = true := by
  rw [List.all_map, List.all_eq_true]
  intro x _
  rfl
theorem sf_eI (l : List Int) : ((l.map eI).all fun r => r.all PV.sf) = true := by
  rw [List.all_map, List.all_eq_true]
  intro x _
  rfl
theorem clone_int_nil : Den Tryz.prog 99 [.ro []] [] (.ro []) [] [] := by
  refine Den_split [] [] ?_ ?_
  · (refine den_walk mix Tryz.func99 rfl (by kernel_rfl) rfl [.tmp 2] rfl (by simp) ?_; simp only [bodyOf, Tryz.f99])
    (repeat refine stp ?_)
    exact FZ (.loc 2 0)
  · (refine den_walk mix Tryz.func99 rfl (by kernel_rfl) rfl [.tmp 2] rfl (by simp) ?_; simp only [bodyOf, Tryz.f99])
    (repeat refine stp ?_)
    exact FZ (.loc 5 0)
theorem clone_int (l : List Int) (hn : l.length ≤ 1099511627776) : Den Tryz.prog 99 [.ro (l.map eI)] [] (.ro (l.map eI)) [] [] := by
  cases l with
  | nil => exact clone_int_nil
  | cons x l =>
    simp only [List.length_cons] at hn
    have ha := all_eI l
    have ht := take_allm eI l
    have hz := Nat.zero_add (l.length + 1)
    have hx : (l.length + 1) * 8 ≤ 140737488355328 := by omega
    (refine den_walk mix Tryz.func99 rfl (by kernel_rfl) rfl [.tmp 2] rfl (by simp) ?_; simp only [bodyOf, Tryz.f99])
    (repeat refine stp ?_)
    exact FZ (.loc 5 0)
theorem len_eS (l : List ByteArray) : ((l.map eS).all fun r => r.length == 1) = true := by
  rw [List.all_map, List.all_eq_true]
  intro x _
  rfl
theorem sf_eS (l : List ByteArray) : ((l.map eS).all fun r => r.all PV.sf) = true := by
  rw [List.all_map, List.all_eq_true]
  intro x _
  rfl
theorem all_eD (l : List Sp.Dec) : ((l.map eD).all fun r => decide (r.length = 2) && r.all PV.sf) = true := by
  rw [List.all_map, List.all_eq_true]
  intro x _
  rfl
theorem len_eD (l : List Sp.Dec) : ((l.map eD).all fun r => r.length == 2) = true := by
  rw [List.all_map, List.all_eq_true]
  intro x _
  rfl
theorem sf_eD (l : List Sp.Dec) : ((l.map eD).all fun r => r.all PV.sf) = true := by
  rw [List.all_map, List.all_eq_true]
  intro x _
  rfl
theorem clone_dec_nil : Den Tryz.prog 102 [.ro []] [] (.ro []) [] [] := by
  refine Den_split [] [] ?_ ?_
  · (refine den_walk mix Tryz.func102 rfl (by kernel_rfl) rfl [.tmp 2] rfl (by simp) ?_; simp only [bodyOf, Tryz.f102])
    (repeat refine stp ?_)
    exact FZ (.loc 2 0)
  · (refine den_walk mix Tryz.func102 rfl (by kernel_rfl) rfl [.tmp 2] rfl (by simp) ?_; simp only [bodyOf, Tryz.f102])
    (repeat refine stp ?_)
    exact FZ (.loc 5 0)
theorem clone_dec (l : List Sp.Dec) (hn : l.length ≤ 1099511627776) : Den Tryz.prog 102 [.ro (l.map eD)] [] (.ro (l.map eD)) [] [] := by
  cases l with
  | nil => exact clone_dec_nil
  | cons x l =>
    simp only [List.length_cons] at hn
    have ha := all_eD l
    have ht := take_allm eD l
    have hz := Nat.zero_add (l.length + 1)
    have hx : (l.length + 1) * 16 ≤ 140737488355328 := by omega
    (refine den_walk mix Tryz.func102 rfl (by kernel_rfl) rfl [.tmp 2] rfl (by simp) ?_; simp only [bodyOf, Tryz.f102])
    (repeat refine stp ?_)
    exact FZ (.loc 5 0)
theorem all_eN (l : List Sp.Nd) : ((l.map eN).all fun r => decide (r.length = 4) && r.all PV.sf) = true := by
  rw [List.all_map, List.all_eq_true]
  intro x _
  rfl
theorem len_eN (l : List Sp.Nd) : ((l.map eN).all fun r => r.length == 4) = true := by
  rw [List.all_map, List.all_eq_true]
  intro x _
  rfl
theorem sf_eN (l : List Sp.Nd) : ((l.map eN).all fun r => r.all PV.sf) = true := by
  rw [List.all_map, List.all_eq_true]
  intro x _
  rfl
theorem clone_node_nil : Den Tryz.prog 163 [.ro []] [] (.ro []) [] [] := by
  refine Den_split [] [] ?_ ?_
  · (refine den_walk mix Tryz.func163 rfl (by kernel_rfl) rfl [.tmp 2] rfl (by simp) ?_; simp only [bodyOf, Tryz.f163])
    (repeat refine stp ?_)
    exact FZ (.loc 2 0)
  · (refine den_walk mix Tryz.func163 rfl (by kernel_rfl) rfl [.tmp 2] rfl (by simp) ?_; simp only [bodyOf, Tryz.f163])
    (repeat refine stp ?_)
    exact FZ (.loc 5 0)
theorem clone_node_own (x : Sp.Nd) (l : List Sp.Nd) (hn : l.length + 1 ≤ 1099511627776) : Den Tryz.prog 163 [.ro ((x :: l).map eN)] [] (.own (.loc 0 0) 1 (l.length + 1)) [.rows true 63 4 ((x :: l).map eN)] [] := by
  have ha := all_eN l
  have ht := take_allm eN l
  have hs := sf_eN l
  have hz := Nat.zero_add (l.length + 1)
  have hx : (l.length + 1) * 80 ≤ 140737488355328 := by omega
  (refine den_walk mix Tryz.func163 rfl (by kernel_rfl) rfl [.tmp 2] rfl (by simp) ?_; simp only [bodyOf, Tryz.f163])
  (repeat refine stp ?_)
  exact FN (.loc 5 0)
theorem len_eO (l : List Sp.Ob) : ((l.map eO).all fun r => r.length == 4) = true := by
  rw [List.all_map, List.all_eq_true]
  intro x _
  rfl
theorem sf_eO (l : List Sp.Ob) : ((l.map eO).all fun r => r.all PV.sf) = true := by
  rw [List.all_map, List.all_eq_true]
  intro x _
  rfl
end Go.Proofs.YtpkjiplgpgbheaaGreatDoor.V
namespace Go.Proofs.YtpkjiplgpgbheaaGreatDoor.V
open Go Go.RowKit Go.Proofs Go.Proofs.Ev Go.Proofs.YtpkjiplgpgbheaaGreatDoor Go.Proofs.YtpkjiplgpgbheaaGreatDoor.Sp Go.Proofs.YtpkjiplgpgbheaaGreatDoor.Dm Go.Proofs.YtpkjiplgpgbheaaGreatDoor.Ba Go.Proofs.YtpkjiplgpgbheaaGreatDoor.NuP Go.Proofs.YtpkjiplgpgbheaaGreatDoor.Nt
set_option maxHeartbeats 4000000
set_option maxRecDepth 100000
set_option linter.unusedSimpArgs false
set_option linter.unusedVariables false
/-- How often it is written. -/
def cH (n : Nd) : Nat := if 0 < n.f1.length then 1 else if n.f0 = 5 then 1 else 0
def cK : Fo → Nat
  | .nil => 0
  | .node n k s => (cH n + if n.f0 = 5 then cK k else 1) + 2 + cK s
def cW (n : Nd) (k : Fo) : Nat := cH n + if n.f0 = 5 then cK k else 1
def WrD (n : Nd) (k : Fo) : Prop := ∀ (rest : List Nd) (a : PV) (l q : List UInt8) (c : Nat), Adr a → q = l ++ textT n k → c = cW n k → q.length ≤ 100000000000000 → (k.flat ++ rest).length ≤ 2000000 →
    DenD Tryz.prog 80 [.ptr (.ext 0) 0 0 0, .ro ((n :: (k.flat ++ rest)).map eN)] [bS a (.ext 1) 0 l.length, bB l] (.ro (rest.map eN)) [] [(0, some (bS (.ptr (.ext 0) 0 0 0) (.ext 1) c q.length)), (c, some (bB q))]
theorem write_leaf (n : Nd) (h : smN n) (h5 : n.f0 ≠ 5) : WrD n .nil := by
  intro rest a l q c ha hq hc hl hr
  have hL0 : (n :: (Fo.nil.flat ++ rest))[0]? = some n := rfl
  have hL1 : ((n :: (Fo.nil.flat ++ rest)).map eN).drop 1 = rest.map eN := rfl
  have hL2 : (1 : Int) ≤ ((n :: (Fo.nil.flat ++ rest)).length : Int) := by simp only [List.length_cons]; omega
  have hV := value_den n h
  have hI := ints_den n.f1 h.1.s h.2.1
  have hk5 : (n.f0 == 5) = false := by simpa using h5
  unfold cW at hc
  unfold textT at hq
  rw [if_neg h5] at hc hq
  by_cases hs : 0 < n.f1.length
  · unfold cH at hc
    unfold headN at hq
    rw [if_pos hs] at hc hq
    have hqq : Asd (q = (l ++ (intsL n.f1 ++ [226, 141, 180])) ++ valueN n) := ⟨by rw [hq]; simp⟩
    have hl1 := hl
    rw [hqq.out, List.length_append, List.length_append] at hl1
    have hb : ba (intsL n.f1) ++ (⟨#[226, 141, 180]⟩ : ByteArray) = ba (intsL n.f1 ++ [226, 141, 180]) := ba_append _ [226, 141, 180]
    have hW1 := w_den a ha l (l ++ (intsL n.f1 ++ [226, 141, 180])) (ba (intsL n.f1 ++ [226, 141, 180])) (by rw [ba_data]) (by rw [List.length_append]; omega)
    have hW2 := w_den (.ptr (.ext 0) 0 0 0) (.inr rfl) (l ++ (intsL n.f1 ++ [226, 141, 180])) q (ba (valueN n)) (by rw [ba_data]; exact hqq.out) (by omega)
    rw [← hb] at hW1
    have hsz : (ba (intsL n.f1)).size ≤ 100000000000000 := by rw [ba_size]; simp only [List.length_append] at hl1; omega
    have hs3 : (⟨#[226, 141, 180]⟩ : ByteArray).size = 3 := rfl
    subst hc
    generalize l ++ (intsL n.f1 ++ [226, 141, 180]) = l1 at *
    generalize ba (valueN n) = t2 at *
    generalize ba (intsL n.f1) = t1 at *
    clear hq hb hqq h hl1 h5
    generalize n :: (Fo.nil.flat ++ rest) = L at *
    have hL3 := len_eN L
    rcases ha with rfl | rfl
    all_goals
      (refine denD_walk mix Tryz.func80 rfl (by kernel_rfl) rfl [.tmp 4] rfl (by simp) ?_; simp only [bodyOf, Tryz.f80])
      (repeat refine stp ?_)
      (refine RC (hI) ?_)
      (repeat refine stp ?_)
      refine RX [.ext 0, .ext 1] hW1 ?_
      (repeat refine stp ?_)
      (refine RC (hV) ?_)
      (repeat refine stp ?_)
      refine RX [.ext 0, .ext 1] hW2 ?_
      (repeat refine stp ?_)
      exact FD2
  · unfold cH at hc
    unfold headN at hq
    rw [if_neg hs, if_neg h5] at hc hq
    have hW2 := w_den a ha l q (ba (valueN n)) (by rw [ba_data]; exact hq) (by omega)
    have hs2 : n.f1.length = 0 := by omega
    subst hc
    generalize ba (valueN n) = t2 at *
    clear hq h h5 hI
    generalize n :: (Fo.nil.flat ++ rest) = L at *
    have hL3 := len_eN L
    rcases ha with rfl | rfl
    all_goals
      (refine denD_walk mix Tryz.func80 rfl (by kernel_rfl) rfl [.tmp 4] rfl (by simp) ?_; simp only [bodyOf, Tryz.f80])
      (repeat refine stp ?_)
      (refine RC (hV) ?_)
      (repeat refine stp ?_)
      refine RX [.ext 0, .ext 1] hW2 ?_
      (repeat refine stp ?_)
      exact FD2
def AllD : Fo → Prop
  | .nil => True
  | .node n k s => WrD n k ∧ AllD s
/-- The head of an array is written: what stands then. -/
def HdJ (n : Nd) (l1 : List UInt8) (R : List (List PV)) (τ : St) : Prop := τ.t 0 = .ptr (.ext 0) 0 0 0 ∧ τ.t 1 = .ro R ∧ τ.t 5 = .ptr (.loc 5 0) 1 0 0 ∧ τ.t 6 = .bool true ∧ τ.m (.loc 5 0) = ⟨1, some (.rows false 63 4 [eN n])⟩ ∧ τ.m (.ext 0) = ⟨0, some (bS (.ptr (.ext 0) 0 0 0) (.ext 1) 1 l1.length)⟩ ∧ τ.m (.ext 1) = ⟨1, some (bB l1)⟩
/-- Arrays in an array are written: what stands then. -/
def KdJ (rest : List Nd) (q : List UInt8) (c : Nat) (K : Nat) (m : Nat) (τ : St) : Prop := ∃ (f : Fo) (v : Nat) (q1 : List UInt8) (j : Int), τ.t 0 = .ptr (.ext 0) 0 0 0 ∧ τ.t 1 = .ro ((f.flat ++ rest).map eN) ∧ τ.t 45 = .int .i64 K ∧ τ.t 46 = .int .i64 j ∧ τ.m (.ext 0) = ⟨0, some (bS (.ptr (.ext 0) 0 0 0) (.ext 1) v q1.length)⟩ ∧ τ.m (.ext 1) = ⟨v, some (bB q1)⟩ ∧ j + f.len = K ∧ 0 ≤ j ∧ AllD f ∧ q1 ++ kidsF f = q ∧ v + cK f = c ∧ (f.flat ++ rest).length ≤ 2000000 ∧ m = f.len
theorem write_nest (n : Nd) (k : Fo) (h : smN n) (h5 : n.f0 = 5) (hok : (Fo.node n k .nil).ok) (hall : AllD k) : WrD n k := by
  intro rest a l q c ha hq hc hl hr
  have hL0 : (n :: (k.flat ++ rest))[0]? = some n := rfl
  have hL1 : ((n :: (k.flat ++ rest)).map eN).drop 1 = (k.flat ++ rest).map eN := rfl
  have hL2 : (1 : Int) ≤ ((n :: (k.flat ++ rest)).length : Int) := by simp only [List.length_cons]; omega
  have hL3 := len_eN (n :: (k.flat ++ rest))
  have hkl : (k.len : Int) = (cnt n.f1).1 := by
    have h1 := wants_nonneg hok.1
    have h2 := hok.2.1 h5
    omega
  have hCn := count_den n.f1 (by have := h.2.1; omega)
  have hcn := (cnt_le n.f1).2
  rw [← hkl] at hCn hcn
  generalize (cnt n.f1).2 = cb at hCn
  have hI := ints_den n.f1 h.1.s h.2.1
  have hk5 : (n.f0 == 5) = true := by simp [h5]
  have hc1 : cH n = 1 := by
    unfold cH
    rw [if_pos h5]
    split <;> rfl
  unfold cW at hc
  unfold textT at hq
  rw [if_pos h5] at hc hq
  rw [hc1] at hc
  have hqq : Asd ((l ++ headN n) ++ kidsF k = q) := ⟨by rw [hq]; simp⟩
  have hH : l.length + (headN n).length ≤ q.length := by rw [hq, List.length_append, List.length_append]; omega
  generalize hRR : k.flat ++ rest = RR at *
  generalize hLL : n :: RR = L at *
  replace hRR := Asd.mk hRR
  replace hall := Asd.mk hall
  replace hc := Asd.mk hc
  replace h5 := Asd.mk h5
  clear h hok hkl hq hLL
  have hWf := w_den a ha l
  rcases ha with rfl | rfl
  all_goals
    (refine denD_walk mix Tryz.func80 rfl (by kernel_rfl) rfl [.tmp 4] rfl (by simp) ?_; simp only [bodyOf, Tryz.f80])
    (repeat ((fail_if_success (show Run _ _ (.c (.region 4 _ _) :: _) _)); refine stp ?_))
    refine Run_mid 3 (HdJ n (l ++ headN n) (RR.map eN)) ?_ ?_
    · clear hCn hcn hc hall hRR hqq
      by_cases hs : 0 < n.f1.length
      · have e1 : headN n = intsL n.f1 ++ [226, 141, 180] := if_pos hs
        rw [e1] at hH ⊢
        have hb : ba (intsL n.f1) ++ (⟨#[226, 141, 180]⟩ : ByteArray) = ba (intsL n.f1 ++ [226, 141, 180]) := ba_append _ [226, 141, 180]
        have hs3 : (⟨#[226, 141, 180]⟩ : ByteArray).size = 3 := rfl
        have hsz : (ba (intsL n.f1)).size ≤ 100000000000000 := by rw [ba_size]; simp only [List.length_append] at hH; omega
        have hW1 := hWf (l ++ (intsL n.f1 ++ [226, 141, 180])) (ba (intsL n.f1 ++ [226, 141, 180])) (by rw [ba_data]) (by rw [List.length_append]; omega)
        rw [← hb] at hW1
        generalize l ++ (intsL n.f1 ++ [226, 141, 180]) = l1 at *
        generalize ba (intsL n.f1) = t1 at *
        clear hb hH e1 h5 hWf
        (repeat refine stp ?_)
        (refine RC (hI) ?_)
        (repeat refine stp ?_)
        refine RX [.ext 0, .ext 1] hW1 ?_
        (repeat refine stp ?_)
        exact ⟨rd, rd, rd, rd, rdm, rdm, rdm⟩
      · have e1 : headN n = [226, 138, 130] := by unfold headN; rw [if_neg hs, if_pos h5.out]
        have hs2 : n.f1.length = 0 := by omega
        rw [e1] at hH ⊢
        have hW1 := hWf (l ++ [226, 138, 130]) ⟨#[226, 138, 130]⟩ rfl (by rw [List.length_append]; simp only [List.length_cons, List.length_nil] at hH ⊢; omega)
        generalize l ++ [226, 138, 130] = l1 at *
        clear hH e1 h5 hI hWf
        (repeat refine stp ?_)
        refine RX [.ext 0, .ext 1] hW1 ?_
        (repeat refine stp ?_)
        exact ⟨rd, rd, rd, rd, rdm, rdm, rdm⟩
    · rintro τ ⟨h0, h1, h5', h6, hm5, hm0, hm1⟩
      clear hL0 hL1 hL2 hL3 hI hH hWf h5 hc1
      (repeat refine stp ?_)
      (refine RC (hCn) ?_)
      (repeat refine stp ?_)
      refine Run_loop (KdJ rest q c k.len) k.len ?_ ?_
      · exact ⟨k, 1, l ++ headN n, 0, rd, (by rw [hRR.out]; exact rd), rd, rd, rdm, rdm, by omega, by omega, hall.out, hqq.out, hc.out.symm, by rw [hRR.out]; exact hr, rfl⟩
      clear h0 h1 h5' h6 hm5 hm0 hm1 hall hqq hc hRR hr hCn
      rintro m σ ⟨f, v, q1, j, h0, h1, h45, h46, hm0, hm1, hj, hj0, hall, hq, hc, hr, rfl⟩
      cases f with
      | nil =>
        have hlt : decide (j < (k.len : Int)) = false := decide_eq_false (by simp only [Fo.len] at hj; omega)
        have hq : q1 = q := by simpa [kidsF] using hq
        have hc : v = c := by simpa [cK] using hc
        subst hq
        subst hc
        clear hall hj hr
        simp only [Fo.flat, List.nil_append] at h1
        (repeat refine stp ?_)
        exact FD2 (hc1 := fun h => h)
      | node n' p s =>
        have hlt : decide (j < (k.len : Int)) = true := decide_eq_true (by simp only [Fo.len] at hj; omega)
        have hjw : IntKind.i64.wrap (j + 1) = j + 1 := IntWalk.i64_in _ (by omega)
        have hfl : (Fo.node n' p s).flat ++ rest = n' :: (p.flat ++ (s.flat ++ rest)) := by simp [Fo.flat]
        rw [hfl] at h1 hr
        simp only [List.length_cons, List.length_append] at hr
        have hq2 : ((q1 ++ [40]) ++ textT n' p) ++ [41] ++ kidsF s = q := by rw [← hq, kidsF_node]; simp
        have hz := congrArg List.length hq2
        simp only [List.length_append, List.length_cons, List.length_nil] at hz
        have hW1 := w_den (.ptr (.ext 0) 0 0 0) (.inr rfl) q1 (q1 ++ [40]) ⟨#[40]⟩ rfl (by simp only [List.length_append, List.length_cons, List.length_nil]; omega)
        have hR := hall.1 (s.flat ++ rest) (.ptr (.ext 0) 0 0 0) (q1 ++ [40]) ((q1 ++ [40]) ++ textT n' p) (cW n' p) (.inr rfl) rfl rfl (by simp only [List.length_append, List.length_cons, List.length_nil]; omega) (by simp only [List.length_append]; omega)
        have hW2 := w_den (.ptr (.ext 0) 0 0 0) (.inr rfl) ((q1 ++ [40]) ++ textT n' p) (((q1 ++ [40]) ++ textT n' p) ++ [41]) ⟨#[41]⟩ rfl (by simp only [List.length_append, List.length_cons, List.length_nil]; omega)
        have hall2 := Asd.mk hall.2
        have hc2 : Asd (v + 1 + cW n' p + 1 + cK s = c) := ⟨by rw [← hc]; unfold cW; simp only [cK]; omega⟩
        replace hq2 := Asd.mk hq2
        replace hj := Asd.mk hj
        generalize cW n' p = c1 at *
        generalize hA3 : ((q1 ++ [40]) ++ textT n' p) ++ [41] = q4 at *
        generalize (q1 ++ [40]) ++ textT n' p = q3 at *
        generalize q1 ++ [40] = q2 at *
        generalize hA5 : n' :: (p.flat ++ (s.flat ++ rest)) = L' at *
        clear hall hq hc hz hA3 hA5 hfl
        (repeat refine stp ?_)
        refine RX [.ext 0, .ext 1] hW1 ?_
        (repeat refine stp ?_)
        refine RX [.ext 0, .ext 1] hR ?_
        (repeat refine stp ?_)
        refine RX [.ext 0, .ext 1] hW2 ?_
        (repeat refine stp ?_)
        exact ⟨s.len, by simp only [Fo.len]; omega, s, v + 1 + c1 + 1, q4, j + 1, rd, rd, rd, rd, rdm, rdm, by have := hj.out; simp only [Fo.len] at this; omega, by omega, hall2.out, hq2.out, hc2.out, by simp only [List.length_append]; omega, rfl⟩
theorem write_all : ∀ f : Fo, f.ok → (∀ x ∈ f.flat, smN x) → AllD f
  | .nil, _, _ => trivial
  | .node n k s, h, hs => by
    refine ⟨?_, write_all s h.2.2.2.2 fun x hx => hs x (by simp [Fo.flat, hx])⟩
    by_cases h5 : n.f0 = 5
    · exact write_nest n k (hs n (by simp [Fo.flat])) h5 ⟨h.1, h.2.1, h.2.2.1, h.2.2.2.1, trivial⟩ (write_all k h.2.2.2.1 fun x hx => hs x (by simp [Fo.flat, hx]))
    · obtain rfl := h.2.2.1 h5
      exact write_leaf n (hs n (by simp [Fo.flat])) h5
end Go.Proofs.YtpkjiplgpgbheaaGreatDoor.V
namespace Go.Proofs.YtpkjiplgpgbheaaGreatDoor.V
open Go Go.Proofs Go.Proofs.Ev Go.Proofs.YtpkjiplgpgbheaaGreatDoor Go.Proofs.YtpkjiplgpgbheaaGreatDoor.Sp Go.Proofs.YtpkjiplgpgbheaaGreatDoor.Ba
set_option maxHeartbeats 4000000
set_option maxRecDepth 100000
set_option linter.unusedSimpArgs false
set_option linter.unusedVariables false
set_option linter.unusedSectionVars false
theorem set_same {α : Type} {l : List α} {k : Nat} {x : α} (h : l[k]? = some x) : l.set k x = l := by
  refine List.ext_getElem? (fun i => ?_)
  by_cases hi : i = k
  · subst hi
    rw [List.getElem?_set_self (List.getElem?_eq_some_iff.1 h).1, h]
  · rw [List.getElem?_set_ne (Ne.symm hi)]
theorem map_get {α β : Type} {f : α → β} {l : List α} {k : Nat} {x : α} (h : l[k]? = some x) : (l.map f)[k]? = some (f x) := by
  rw [List.getElem?_map, h]; rfl
theorem copy_arr (a : List Sp.Nd) (ha : a.length ≤ 1048576) (hw : ∀ n ∈ a, wfN n) : Den Tryz.prog 89 [.ro (a.map eN)] [] (.ro (a.map eN)) [] [] := by
  cases a with
  | nil =>
    (refine den_walk mix Tryz.func89 rfl (by kernel_rfl) rfl [.tmp 2] rfl (by simp) ?_; simp only [bodyOf, Tryz.f89])
    (repeat refine stp ?_)
    (refine RC (clone_node_nil) ?_)
    (repeat refine stp ?_)
    refine Run_loop (fun m σ => σ.t 10 = .int .i64 0 ∧ σ.t 9 = .int .i64 0 ∧ σ.t 3 = .ro []) 0 ⟨rd, rd, rd⟩ ?_
    rintro m σ ⟨h10, h9, h3⟩
    (repeat refine stp ?_)
    exact FE
  | cons x l =>
    simp only [List.length_cons] at ha
    have hsf0 := sf_eN l
    (refine den_walk mix Tryz.func89 rfl (by kernel_rfl) rfl [.tmp 2] rfl (by simp) ?_; simp only [bodyOf, Tryz.f89])
    (repeat refine stp ?_)
    (refine RN (clone_node_own x l (by omega)) ?_)
    generalize hA : x :: l = A at *
    have hl : l.length + 1 = A.length := by rw [← hA]; rfl
    rw [hl]
    rw [hl] at ha
    have htk := take_allm eN A
    have hsf := sf_eN A
    (repeat refine stp ?_)
    refine Run_loop (fun m σ => ∃ (k : Nat) (v : Nat), σ.t 8 = .own (.loc 7 0) v A.length ∧ σ.t 9 = .int .i64 A.length ∧ σ.t 10 = .int .i64 k ∧ σ.t 3 = .own (.loc 7 0) v A.length ∧ σ.m (.loc 7 0) = ⟨v, some (.rows true 63 4 (A.map eN))⟩ ∧ m = A.length - k ∧ k ≤ A.length) A.length ?_ ?_
    · exact ⟨0, _, rd, rd, rd, rd, rdm, rfl, by omega⟩
    · rintro m σ ⟨k, v, h8, h9, h10, h3, hm, rfl, hk⟩
      by_cases hk1 : k < A.length
      · obtain ⟨n, hs⟩ : ∃ n, A[k]? = some n := ⟨_, List.getElem?_eq_getElem hk1⟩
        have hse : (A.map eN).set k [.int .i64 n.f0, .ro (n.f1.map eI), .ro (n.f2.map eI), .ro (n.f3.map eD)] = A.map eN := set_same (map_get hs)
        have hwn := hw n (List.mem_of_getElem? hs)
        (repeat refine stp ?_)
        (refine DC (clone_int n.f1 hwn.ls) ?_)
        (repeat refine stp ?_)
        (refine DC (clone_int n.f2 hwn.li) ?_)
        (repeat refine stp ?_)
        (refine DC (clone_dec n.f3 hwn.ld) ?_)
        (repeat refine stp ?_)
        exact ⟨_, by omega, k + 1, v, rd, rd, rd, rd, rdm, rfl, by omega⟩
      · have hke : k = A.length := by omega
        subst hke
        (repeat refine stp ?_)
        exact FZ (.loc 7 0)
end Go.Proofs.YtpkjiplgpgbheaaGreatDoor.V
namespace Go.Proofs.YtpkjiplgpgbheaaGreatDoor.V
open Go Go.Proofs Go.Proofs.Ev Go.Proofs.YtpkjiplgpgbheaaGreatDoor Go.Proofs.YtpkjiplgpgbheaaGreatDoor.Sp Go.Proofs.YtpkjiplgpgbheaaGreatDoor.Ba
set_option maxHeartbeats 4000000
set_option maxRecDepth 100000
set_option linter.unusedSimpArgs false
set_option linter.unusedVariables false
set_option linter.unusedSectionVars false
@[go_sem] def eR (l : List Sp.Nd) : List PV := [.ro (l.map eN)]
theorem sf_eR (l : List (List Sp.Nd)) : ((l.map eR).all fun r => r.all PV.sf) = true := by
  rw [List.all_map, List.all_eq_true]
  intro x _
  rfl
open Fo in
theorem len_flat : ∀ f : Fo, f.len ≤ f.flat.length
  | nil => Nat.le_refl _
  | node n k s => by
    have := len_flat s
    simp only [len, flat, List.length_cons, List.length_append]
    omega
open Fo in
theorem kids_den (n : Sp.Nd) (f : Fo) (h : (node n f nil).ok) (ht : (node n f nil).tot ≤ 1048576) (hd : (node n f nil).dep ≤ 16) (h5 : n.f0 = 5) (hl : (n :: f.flat).length ≤ 1048576) (hw : ∀ x ∈ n :: f.flat, wfN x) :
    Den Tryz.prog 38 [.ro ((n :: f.flat).map eN)] [] (.own (.loc 0 0) 1 f.len) [.rows true 44 1 ((trees f).map eR)] [] := by
  have hR : rightL (n :: f.flat) = true := tree_right n f h ht hd
  obtain ⟨g0, g5, gn5, hk, _⟩ := h
  have htk : f.tot ≤ 1048576 := by simp only [tot] at ht; omega
  have hdk : f.dep ≤ 16 := by simp only [dep] at hd; omega
  have hlf : f.flat.length ≤ 1048575 := by simp only [List.length_cons] at hl; omega
  have hwf : ∀ x ∈ f.flat, wfN x := fun x hx => hw x (by simp [hx])
  have hfl0 := len_flat f
  have hro := len_eN f.flat
  have hf1 : f.len ≤ 1048575 := by omega
  clear g5 gn5 ht hd
  (refine den_walk mix Tryz.func38 rfl (by kernel_rfl) rfl [.tmp 2] rfl (by simp) ?_; simp only [bodyOf, Tryz.f38])
  (repeat refine stp ?_)
  (refine RC (right_arr (n :: f.flat) (by omega) hw) ?_)
  clear hw hl
  (repeat refine stp ?_)
  refine Run_loop (fun m σ => ∃ (q : Fo) (acc : List (List Sp.Nd)) (v : Nat), σ.t 0 = .ro (q.flat.map eN) ∧ σ.t 2 = .own (.loc 2 0) v acc.length ∧ σ.m (.loc 2 0) = ⟨v, some (.rows true 44 1 (acc.map eR))⟩ ∧ m = q.len ∧ acc ++ trees q = trees f ∧ acc.length + q.len = f.len ∧ q.ok ∧ q.tot ≤ 1048576 ∧ q.dep ≤ 16 ∧ q.flat.length ≤ 1048575 ∧ (∀ x ∈ q.flat, wfN x)) f.len ?_ ?_
  · exact ⟨f, [], _, by (simp only [List.map_cons, List.drop_succ_cons, List.drop_zero]; exact rd), rd, rdm, rfl, rfl, by simp, hk, htk, hdk, hlf, hwf⟩
  clear hk htk hdk hlf hwf hR hro hfl0
  rintro m σ ⟨q, acc, v, s0, s2, hm, rfl, hj, hjl, hk, htk, hdk, hlf, hwf⟩
  cases q with
  | nil =>
    simp only [trees, List.append_nil] at hj
    simp only [len, Nat.add_zero] at hjl
    simp only [flat, List.map_nil] at s0
    rw [← hjl, ← hj]
    clear hj hjl
    have hsf := sf_eR acc
    (repeat refine stp ?_)
    exact FN (.loc 2 0)
  | node x y s =>
    have hT := take_first x y s hk htk hdk
    have hS := tot_nonneg s hk.2.2.2.2
    have hY := tot_nonneg y hk.2.2.2.1
    have hfl : (node x y s).flat = (x :: y.flat) ++ s.flat := by simp [flat]
    have hln : (node x y s).flat.length = (x :: y.flat).length + s.flat.length := by rw [hfl, List.length_append]
    have hwt : ∀ z ∈ x :: y.flat, wfN z := fun z hz => hwf z (by rw [hfl]; exact List.mem_append.2 (.inl hz))
    have hws : ∀ z ∈ s.flat, wfN z := fun z hz => hwf z (by rw [hfl]; simp [hz])
    have hC := take_den (node x y s).flat (by omega) hwf
    rw [hT] at hC
    have hCopy := copy_arr (x :: y.flat) (by omega) hwt
    have htake : ((node x y s).flat.map eN).take (x :: y.flat).length = (x :: y.flat).map eN := by rw [hfl, List.map_append, List.take_left' (by simp)]
    have hdrop : ((node x y s).flat.map eN).drop (x :: y.flat).length = s.flat.map eN := by rw [hfl, List.map_append, List.drop_left' (by simp)]
    have hpos : 0 < (node x y s).flat.length := by rw [hln, List.length_cons]; omega
    have hacc := take_allm eR acc
    have hro := len_eN (node x y s).flat
    generalize hA : x :: y.flat = A at *
    generalize hB : (node x y s).flat = B at *
    have hjl2 : acc.length + (s.len + 1) = f.len := by rw [← hjl]; rfl
    have hle : acc.length ≤ 1048576 := by omega
    have hAB : A.length ≤ B.length := by omega
    have hsB : s.flat.length ≤ 1048575 := by omega
    clear hfl hln hT hwf hwt
    replace hj := Asd.mk hj
    (repeat refine stp ?_)
    (refine RC (hC) ?_)
    (repeat refine stp ?_)
    (refine DC (hCopy) ?_)
    (repeat refine stp ?_)
    refine ⟨s.len, ?_, s, acc ++ [A], v + 1, ?_, ?_, ?_, rfl, ?_, ?_, hk.2.2.2.2, ?_, ?_, ?_, hws⟩
    · simp only [len]; omega
    · exact rd
    · simp only [List.length_append, List.length_cons, List.length_nil, Nat.zero_add]; exact rd
    · simp only [List.map_append, List.map_cons, List.map_nil]; exact rdm
    · rw [← hj.out]; simp [trees, hA]
    · simp only [List.length_append, List.length_cons, List.length_nil]; omega
    · simp only [tot] at htk; have := hk.1; omega
    · simp only [dep] at hdk; omega
    · omega
end Go.Proofs.YtpkjiplgpgbheaaGreatDoor.V
namespace Go.Proofs.YtpkjiplgpgbheaaGreatDoor.V
open Go Go.Proofs Go.Proofs.Ev Go.Proofs.YtpkjiplgpgbheaaGreatDoor Go.Proofs.YtpkjiplgpgbheaaGreatDoor.Sp Go.Proofs.YtpkjiplgpgbheaaGreatDoor.Ba
set_option maxHeartbeats 4000000
set_option maxRecDepth 100000
set_option linter.unusedSimpArgs false
set_option linter.unusedVariables false
set_option linter.unusedSectionVars false
theorem grow_den (n : Nat) (hn : n * 80 ≤ 140737488355328) : Den Tryz.prog 272 [.nils, .int .i64 n] [] (.own (.loc 0 0) 1 0) [.rows true 63 4 []] [] := by
  have hn' : (n : Int) ≤ 140737488355328 := by omega
  by_cases h0 : n = 0
  · subst h0
    (refine den_walk mix Tryz.func272 rfl (by kernel_rfl) rfl [.tmp 4] rfl (by simp) ?_; simp only [bodyOf, Tryz.f272])
    (repeat refine stp ?_)
    refine FGh (Gh.nilslot 4 (by exact q_) (.loc 99 0) 63 4 (by decide) (v' := 0) (by exact q_)) ?_
    exact FN (.loc 99 0)
  · have e0 : (n : Int) - 0 = n := Int.sub_zero _
    (refine den_walk mix Tryz.func272 rfl (by kernel_rfl) rfl [.tmp 4] rfl (by simp) ?_; simp only [bodyOf, Tryz.f272])
    (repeat ((fail_if_success (show Run _ _ (.reg _ (⟨some 22, _, _, _, _, _⟩ :: _) :: _) _)); refine stp ?_))
    refine RO (.appZ (n := n) rfl q_ q_ q_ q_ (by decide +kernel) q_ q_ (by omega) (by omega) (by rw [show byP Tryz.prog 63 = 80 by kernel_rfl]; exact hn)) ?_
    (repeat refine stp ?_)
    exact FN (.loc 22 0)
theorem fl_step {α : Type} {ks : List (List α)} {k : Nat} {x : List α} (h : ks[k]? = some x) : (ks.take (k + 1)).flatten = (ks.take k).flatten ++ x := by
  rw [List.take_add_one, h]
  simp
theorem fl_le {α : Type} (ks : List (List α)) (k : Nat) : (ks.take k).flatten.length ≤ ks.flatten.length := by
  have h := congrArg (fun l => (List.flatten l).length) (List.take_append_drop k ks)
  simp only [List.flatten_append, List.length_append] at h
  omega
theorem concat_den (ks : List (List Sp.Nd)) (hn : ks.length ≤ 1099511627776) (ht : ks.flatten.length ≤ 1048576) : Den Tryz.prog 222 [.ro (ks.map eR)] [] (.ro (ks.flatten.map eN)) [] [] := by
  (refine den_walk mix Tryz.func222 rfl (by kernel_rfl) rfl [.tmp 2] rfl (by simp) ?_; simp only [bodyOf, Tryz.f222])
  (repeat refine stp ?_)
  refine Run_loop (fun m σ => ∃ (k : Nat) (S : Nat), σ.t 0 = .ro (ks.map eR) ∧ σ.t 9 = .ro (ks.map eR) ∧ σ.t 10 = .int .i64 ks.length ∧ σ.t 11 = .int .i64 k ∧ σ.t 3 = .int .i64 S ∧ m = ks.length - k ∧ k ≤ ks.length ∧ (ks.take k).flatten.length = S) ks.length ?_ ?_
  · exact ⟨0, 0, rd, rd, rd, rd, rd, rfl, by omega, rfl⟩
  rintro m σ ⟨k, S, h0, h9, h10, h11, h3, rfl, hk, hS⟩
  by_cases hk1 : k < ks.length
  · obtain ⟨x, hs⟩ : ∃ x, ks[k]? = some x := ⟨_, List.getElem?_eq_getElem hk1⟩
    have h1 := fl_le ks (k + 1)
    have h2 : (ks.take (k + 1)).flatten.length = S + x.length := by rw [fl_step hs, List.length_append, hS]
    rw [h2] at h1
    replace hS := Asd.mk hS
    replace h2 := Asd.mk h2
    (repeat refine stp ?_)
    exact ⟨_, by omega, k + 1, S + x.length, rd, rd, rd, rd, rd, rfl, by omega, h2.out⟩
  · have hke : k = ks.length := by omega
    subst hke
    rw [List.take_length] at hS
    rw [hS] at ht
    clear hk1 hk
    replace hS := Asd.mk hS
    (repeat refine stp ?_)
    (refine RN (grow_den S (by omega)) ?_)
    (repeat refine stp ?_)
    refine Run_loop (fun m σ => ∃ (k : Nat) (v : Nat) (S : Nat), σ.t 25 = .ro (ks.map eR) ∧ σ.t 26 = .int .i64 ks.length ∧ σ.t 27 = .int .i64 k ∧ σ.t 6 = .own (.loc 24 0) v S ∧ σ.m (.loc 24 0) = ⟨v, some (.rows true 63 4 ((ks.take k).flatten.map eN))⟩ ∧ m = ks.length - k ∧ k ≤ ks.length ∧ (ks.take k).flatten.length = S) ks.length ?_ ?_
    · exact ⟨0, _, 0, rd, rd, rd, rd, rdm, rfl, by omega, rfl⟩
    clear h0 h9 h10 h11 h3
    rintro m σ ⟨k, v, T, h25, h26, h27, h6, hm, rfl, hk, hT⟩
    by_cases hk1 : k < ks.length
    · obtain ⟨x, hs⟩ : ∃ x, ks[k]? = some x := ⟨_, List.getElem?_eq_getElem hk1⟩
      have h1 := fl_le ks (k + 1)
      have h2 := fl_step hs
      have h3 : (ks.take (k + 1)).flatten.length = T + x.length := by rw [h2, List.length_append, hT]
      rw [h3, hS.out] at h1
      have hall := all_eN x
      have htk : (List.map eN (ks.take k).flatten).take T = List.map eN (ks.take k).flatten := by rw [← hT]; exact take_allm eN _
      have hTl : T ≤ (ks.take k).flatten.length := by omega
      replace h2 := Asd.mk h2
      replace h3 := Asd.mk h3
      replace hT := Asd.mk hT
      (repeat refine stp ?_)
      exact ⟨_, by omega, k + 1, v + 1, T + x.length, rd, rd, rd, rd, by (rw [h2.out, List.map_append]; exact rdm), rfl, by omega, h3.out⟩
    · have hke : k = ks.length := by omega
      subst hke
      rw [List.take_length] at hm hT
      have hsf := sf_eN ks.flatten
      have htk : (List.map eN ks.flatten).take T = List.map eN ks.flatten := by rw [← hT]; exact take_allm eN _
      have hTl : T ≤ ks.flatten.length := by omega
      clear hT hk1 hk
      (repeat refine stp ?_)
      exact FZ (.loc 24 0)
theorem nums_den (n : Sp.Nd) (hw : wfN n) (hd : n.f2.length ≤ 1048576) : Den Tryz.prog 223 [.agg (eN n)] [] (.ro ((numsOf n).map eD)) [] [] := by
  (refine den_walk mix Tryz.func223 rfl (by kernel_rfl) rfl [.tmp 2] rfl (by simp) ?_; simp only [bodyOf, Tryz.f223])
  by_cases h4 : n.f0 = 4
  · have e : numsOf n = n.f3 := by unfold numsOf; rw [if_pos h4]
    rw [e]
    clear e
    (repeat refine stp ?_)
    exact FE
  · have e : numsOf n = n.f2.map ofB := by unfold numsOf; rw [if_neg h4]
    rw [e]
    clear e
    (repeat refine stp ?_)
    refine Run_loop (fun m σ => ∃ (k : Nat) (v : Nat), σ.t 12 = .ro (n.f2.map eI) ∧ σ.t 13 = .int .i64 n.f2.length ∧ σ.t 14 = .int .i64 k ∧ σ.t 3 = .own (.loc 3 0) v k ∧ σ.m (.loc 3 0) = ⟨v, some (.rows true 70 2 (((n.f2.take k).map ofB).map eD))⟩ ∧ m = n.f2.length - k ∧ k ≤ n.f2.length) n.f2.length ?_ ?_
    · exact ⟨0, _, rd, rd, rd, rd, rdm, rfl, by omega⟩
    rintro m σ ⟨k, v, h12, h13, h14, h3, hm, rfl, hk⟩
    by_cases hk1 : k < n.f2.length
    · obtain ⟨x, hs⟩ : ∃ x, n.f2[k]? = some x := ⟨_, List.getElem?_eq_getElem hk1⟩
      have hx := hw.i x (List.mem_of_getElem? hs)
      have h2 : (n.f2.take (k + 1)) = n.f2.take k ++ [x] := by rw [List.take_add_one, hs]; rfl
      have hlen : ((n.f2.take k).map ofB).length = k := by simp; omega
      have htk : ((List.map ofB (n.f2.take k)).map eD).take k = (List.map ofB (n.f2.take k)).map eD := List.take_of_length_le (by simp; omega)
      have hle : k ≤ (n.f2.take k).length := by simp; omega
      replace h2 := Asd.mk h2
      clear hlen
      (repeat refine stp ?_)
      (refine RC (of_den x hx) ?_)
      (repeat refine stp ?_)
      exact ⟨_, by omega, k + 1, v + 1, rd, rd, rd, rd, by (rw [h2.out]; simp only [List.map_append, List.map_cons, List.map_nil]; exact rdm), rfl, by omega⟩
    · have hke : k = n.f2.length := by omega
      subst hke
      rw [List.take_length] at hm
      have htk : ((List.map ofB n.f2).map eD).take n.f2.length = (List.map ofB n.f2).map eD := List.take_of_length_le (by simp)
      clear hk1 hk
      (repeat refine stp ?_)
      exact FZ (.loc 3 0)
end Go.Proofs.YtpkjiplgpgbheaaGreatDoor.V
namespace Go.Proofs.YtpkjiplgpgbheaaGreatDoor.V
open Go Go.Proofs Go.Proofs.Ev Go.Proofs.YtpkjiplgpgbheaaGreatDoor Go.Proofs.YtpkjiplgpgbheaaGreatDoor.Sp Go.Proofs.YtpkjiplgpgbheaaGreatDoor.Ba
set_option maxHeartbeats 4000000
set_option maxRecDepth 100000
set_option linter.unusedSimpArgs false
set_option linter.unusedVariables false
set_option linter.unusedSectionVars false
theorem wrong_den (d : Sp.Dec) (h : wfD d) : Den Tryz.prog 96 [.agg (eD d)] [] (.bool (!rightB d)) [] [] := by
  (refine den_walk mix Tryz.func96 rfl (by kernel_rfl) rfl [.tmp 2] rfl (by simp) ?_; simp only [bodyOf, Tryz.f96])
  (repeat refine stp ?_)
  (refine RC (right_den d h) ?_)
  (repeat refine stp ?_)
  exact FE
theorem great_den (n : Int) : Den Tryz.prog 101 [.int .i64 n] [] (.bool (great n)) [] [] := by
  (refine den_walk mix Tryz.func101 rfl (by kernel_rfl) rfl [.tmp 2] rfl (by simp) ?_; simp only [bodyOf, Tryz.f101])
  (repeat refine stp ?_)
  unfold great
  exact FE
theorem numbers_den (s : List Int) (l : List Sp.Dec) (hs : s.length ≤ 1099511627776) (hl : l.length ≤ 1048576) (hw : ∀ d ∈ l, wfD d) :
    Den Tryz.prog 42 [.ro (s.map eI), .ro (l.map eD)] [] (.tup [.agg (eN (numbersL s l).1), .bool (numbersL s l).2]) [] [] := by
  have hC := count_den s hs
  have hF := containsFunc_dec l (by omega) _ [] rfl (by kernel_rfl) (fun d => !rightB d) (fun x hx => wrong_den x (hw x hx))
  have hS := clone_int s hs
  have hW := wholes_den l hl hw
  have hwl := wholeL_len l []
  have hG := containsFunc_int (wholeL l []).1 (by simp at hwl; omega) _ [] rfl (by kernel_rfl) great (fun x _ => great_den x)
  have hD := clone_dec l (by omega)
  cases hc : (cnt s).2 with
  | false =>
    have e : numbersL s l = (zN, false) := by unfold numbersL; rw [if_pos hc]
    rw [e]
    clear e hG hW
    (refine den_walk mix Tryz.func42 rfl (by kernel_rfl) rfl [.cell 4 63, .tmp 5] rfl (by simp) ?_; simp only [bodyOf, Tryz.f42])
    (repeat refine stp ?_)
    (refine RC (hC) ?_)
    (repeat refine stp ?_)
    exact FE
  | true =>
    by_cases hn : (cnt s).1 = l.length
    · cases ha : l.any (fun d => !rightB d) with
      | true =>
        have e : numbersL s l = (zN, false) := by unfold numbersL; rw [if_neg (by simp [hc]), if_neg (by simp [hn]), if_pos ha]
        rw [e]
        clear e hG hW
        rw [ha] at hF
        (refine den_walk mix Tryz.func42 rfl (by kernel_rfl) rfl [.cell 4 63, .tmp 5] rfl (by simp) ?_; simp only [bodyOf, Tryz.f42])
        (repeat refine stp ?_)
        (refine RC (hC) ?_)
        (repeat refine stp ?_)
        (refine RC (hF) ?_)
        (repeat refine stp ?_)
        exact FE
      | false =>
        rw [ha] at hF
        cases hw2 : (wholeL l []).2 with
        | false =>
          have e : numbersL s l = (⟨4, s, [], l⟩, true) := by unfold numbersL; rw [if_neg (by simp [hc]), if_neg (by simp [hn]), if_neg (by simp [ha]), if_pos hw2]
          rw [e]
          clear e
          (refine den_walk mix Tryz.func42 rfl (by kernel_rfl) rfl [.cell 4 63, .tmp 5] rfl (by simp) ?_; simp only [bodyOf, Tryz.f42])
          (repeat refine stp ?_)
          (refine RC (hC) ?_)
          (repeat refine stp ?_)
          (refine RC (hF) ?_)
          (repeat refine stp ?_)
          (refine RC (hS) ?_)
          (repeat refine stp ?_)
          (refine RC (hW) ?_)
          (repeat refine stp ?_)
          (refine RC (hD) ?_)
          (repeat refine stp ?_)
          exact FE
        | true =>
          by_cases h0 : l.length > 0
          · cases hg : (wholeL l []).1.any great with
            | false =>
              have e : numbersL s l = (⟨1, s, (wholeL l []).1, []⟩, true) := by unfold numbersL; rw [if_neg (by simp [hc]), if_neg (by simp [hn]), if_neg (by simp [ha]), if_neg (by simp [hw2]), if_pos ⟨h0, hg⟩]
              rw [e]
              clear e
              rw [hg] at hG
              (refine den_walk mix Tryz.func42 rfl (by kernel_rfl) rfl [.cell 4 63, .tmp 5] rfl (by simp) ?_; simp only [bodyOf, Tryz.f42])
              (repeat refine stp ?_)
              (refine RC (hC) ?_)
              (repeat refine stp ?_)
              (refine RC (hF) ?_)
              (repeat refine stp ?_)
              (refine RC (hS) ?_)
              (repeat refine stp ?_)
              (refine RC (hW) ?_)
              (repeat refine stp ?_)
              (refine RC (hG) ?_)
              (repeat refine stp ?_)
              exact FE
            | true =>
              have e : numbersL s l = (⟨2, s, (wholeL l []).1, []⟩, true) := by unfold numbersL; rw [if_neg (by simp [hc]), if_neg (by simp [hn]), if_neg (by simp [ha]), if_neg (by simp [hw2]), if_neg (by simp [hg])]
              rw [e]
              clear e
              rw [hg] at hG
              (refine den_walk mix Tryz.func42 rfl (by kernel_rfl) rfl [.cell 4 63, .tmp 5] rfl (by simp) ?_; simp only [bodyOf, Tryz.f42])
              (repeat refine stp ?_)
              (refine RC (hC) ?_)
              (repeat refine stp ?_)
              (refine RC (hF) ?_)
              (repeat refine stp ?_)
              (refine RC (hS) ?_)
              (repeat refine stp ?_)
              (refine RC (hW) ?_)
              (repeat refine stp ?_)
              (refine RC (hG) ?_)
              (repeat refine stp ?_)
              exact FE
          · have e : numbersL s l = (⟨2, s, (wholeL l []).1, []⟩, true) := by unfold numbersL; rw [if_neg (by simp [hc]), if_neg (by simp [hn]), if_neg (by simp [ha]), if_neg (by simp [hw2]), if_neg (by simp [h0])]
            rw [e]
            clear e
            (refine den_walk mix Tryz.func42 rfl (by kernel_rfl) rfl [.cell 4 63, .tmp 5] rfl (by simp) ?_; simp only [bodyOf, Tryz.f42])
            (repeat refine stp ?_)
            (refine RC (hC) ?_)
            (repeat refine stp ?_)
            (refine RC (hF) ?_)
            (repeat refine stp ?_)
            (refine RC (hS) ?_)
            (repeat refine stp ?_)
            (refine RC (hW) ?_)
            (repeat refine stp ?_)
            exact FE
    · have e : numbersL s l = (zN, false) := by unfold numbersL; rw [if_neg (by simp [hc]), if_pos hn]
      rw [e]
      clear e hG hW
      (refine den_walk mix Tryz.func42 rfl (by kernel_rfl) rfl [.cell 4 63, .tmp 5] rfl (by simp) ?_; simp only [bodyOf, Tryz.f42])
      (repeat refine stp ?_)
      (refine RC (hC) ?_)
      (repeat refine stp ?_)
      exact FE
end Go.Proofs.YtpkjiplgpgbheaaGreatDoor.V
namespace Go.Proofs.YtpkjiplgpgbheaaGreatDoor.V
open Go Go.Proofs Go.Proofs.Ev Go.Proofs.YtpkjiplgpgbheaaGreatDoor Go.Proofs.YtpkjiplgpgbheaaGreatDoor.Sp Go.Proofs.YtpkjiplgpgbheaaGreatDoor.Ba
set_option maxHeartbeats 4000000
set_option maxRecDepth 100000
set_option linter.unusedSimpArgs false
set_option linter.unusedVariables false
set_option linter.unusedSectionVars false
theorem scal {n : Sp.Nd} (h : 0 ≤ items n) (h1 : ¬ n.f1.length > 0) (h5 : n.f0 ≠ 5) : (n.f0 = 3 → n.f2.length = 1) ∧ (n.f0 ≠ 3 → (numsOf n).length = 1) := by
  have h1' : n.f1 = [] := List.eq_nil_of_length_eq_zero (by omega)
  obtain ⟨w1, w2, ⟨i, d, w3, w4, w5⟩, _, _⟩ := wants_nonneg h
  have hc : (cnt n.f1).1 = 1 := by rw [h1']; rfl
  refine ⟨fun h3 => ?_, fun h3 => ?_⟩
  · rw [hc] at w3
    unfold wants at w3
    rw [if_pos (by omega)] at w3
    cases w3
    omega
  · have := (numsOf_good h h3 h5).1
    rw [w2, hc] at this
    omega
/-- The signs' row, as it lies: none yet, or its own. -/
def XOK (σ : St) (X : PV) (cs : List Int) : Prop := (X = .nils ∧ cs = []) ∨ ∃ v, X = .own (.loc 46 0) v cs.length ∧ σ.m (.loc 46 0) = ⟨v, some (.rows true 3 1 (cs.map eI))⟩
theorem joined_den (s : List Int) (ks : List (List Sp.Nd)) (hs : s.length ≤ 1099511627776) (hk : ks.length ≤ 1048576) (hne : ∀ k ∈ ks, ∃ n l, k = n :: l ∧ wfN n ∧ 0 ≤ items n) :
    Den Tryz.prog 221 [.ro (s.map eI), .ro (ks.map eR)] [] (.tup [.agg (eN (joinL s (ks.map fun x => x.headD zN)).1), .bool (joinL s (ks.map fun x => x.headD zN)).2]) [] [] := by
  have hS := clone_int s hs
  (refine den_walk mix Tryz.func221 rfl (by kernel_rfl) rfl [.cell 4 63, .tmp 5] rfl (by simp) ?_; simp only [bodyOf, Tryz.f221])
  (repeat refine stp ?_)
  (refine RC (hS) ?_)
  (repeat refine stp ?_)
  refine Run_loop (fun m σ => ∃ (k : Nat) (cs : List Int) (ds : List Sp.Dec) (X : PV) (v4 v6 v7 : Nat), σ.t 0 = .ro (s.map eI) ∧ σ.t 1 = .ro (ks.map eR) ∧ σ.t 14 = .ro (ks.map eR) ∧ σ.t 15 = .int .i64 ks.length ∧ σ.t 16 = .int .i64 k ∧ σ.t 4 = .ptr (.loc 4 0) v4 0 0 ∧ σ.m (.loc 4 0) = ⟨v4, some (.rows false 63 4 [[.int .i64 0, .nils, .nils, .nils]])⟩ ∧
    σ.t 6 = .ptr (.loc 6 0) v6 0 0 ∧ σ.m (.loc 6 0) = ⟨v6, some (.rows false 63 4 [[.int .i64 3, .ro (s.map eI), X, .nils]])⟩ ∧ σ.t 7 = .own (.loc 7 0) v7 ds.length ∧ σ.m (.loc 7 0) = ⟨v7, some (.rows true 70 2 (ds.map eD))⟩ ∧ XOK σ X cs ∧
    m = ks.length - k ∧ k ≤ ks.length ∧ joinGo s ks.length ((ks.drop k).map fun x => x.headD zN) cs ds = joinL s (ks.map fun x => x.headD zN) ∧ cs.length + ds.length ≤ k ∧ (∀ d ∈ ds, wfD d)) ks.length ?_ ?_
  · exact ⟨0, [], [], .nils, _, _, _, rd, rd, rd, rd, rd, rd, rdm, rd, rdm, rd, rdm, .inl ⟨rfl, rfl⟩, rfl, by omega, (by rw [List.drop_zero, joinL, List.length_map]), by simp, (fun d hd => by cases hd)⟩
  clear hS
  rintro m σ ⟨k, cs, ds, X, v4, v6, v7, h0, h1, h14, h15, h16, h4, m4, h6, m6, h7, m7, hX, rfl, hkk, hj, hl, hwd⟩
  by_cases hk1 : k < ks.length
  · obtain ⟨x, hx⟩ : ∃ x, ks[k]? = some x := ⟨_, List.getElem?_eq_getElem hk1⟩
    obtain ⟨n, tl, rfl, hwn, hin⟩ := hne x (List.mem_of_getElem? hx)
    rw [drop_get hx, List.map_cons, List.headD_cons, joinGo] at hj
    have hsc := scal hin
    have hdl := data_le hin
    have hnd := nums_den n hwn hdl.1
    have hnw := numsOf_wf hwn
    by_cases c1 : n.f1.length > 0
    · rw [if_pos (.inl c1)] at hj
      rw [← hj]
      clear hj hsc hnd
      (repeat refine stp ?_)
      exact FE
    · by_cases c5 : n.f0 = 5
      · rw [if_pos (.inr c5)] at hj
        rw [← hj]
        clear hj hsc hnd
        (repeat refine stp ?_)
        exact FE
      · rw [if_neg (by rintro (h | h) <;> contradiction)] at hj
        obtain ⟨sc3, scn⟩ := hsc c1 c5
        by_cases c3 : n.f0 = 3
        · rw [if_pos c3] at hj
          have hl2 := sc3 c3
          have hall := all_eI n.f2
          replace hj := Asd.mk hj
          rcases hX with ⟨rfl, rfl⟩ | ⟨vx, rfl, mx⟩
          · have hl' : ds.length ≤ k := by simpa using hl
            clear hl scn sc3 hnd hnw
            (repeat refine stp ?_)
            exact ⟨_, by omega, k + 1, n.f2, ds, _, v4, v6, v7, rd, rd, rd, rd, rd, rd, rdm, rd, rdm, rd, rdm, .inr ⟨_, rfl, rdm⟩, rfl, by omega, by simpa using hj.out, by omega, hwd⟩
          · have htk := take_allm eI cs
            clear scn sc3 hnd hnw
            (repeat refine stp ?_)
            exact ⟨_, by omega, k + 1, cs ++ n.f2, ds, _, v4, v6, v7, rd, rd, rd, rd, rd, rd, rdm, rd, rdm, rd, rdm, .inr ⟨vx + 1, (by rw [List.length_append, hl2]), (by rw [List.map_append]; exact rdm)⟩, rfl, by omega, hj.out, by (rw [List.length_append]; omega), hwd⟩
        · rw [if_neg c3] at hj
          have hl2 := scn c3
          have hall := all_eD (numsOf n)
          have htk := take_allm eD ds
          replace hj := Asd.mk hj
          clear sc3 scn
          (repeat refine stp ?_)
          (refine RC (hnd) ?_)
          (repeat refine stp ?_)
          refine ⟨_, ?_, k + 1, cs, ds ++ numsOf n, X, v4, v6, v7 + 1, rd, rd, rd, rd, rd, rd, rdm, rd, rdm, (by (rw [List.length_append]; exact rd)), (by (rw [List.map_append]; exact rdm)), ?_, rfl, by omega, hj.out, (by (rw [List.length_append]; omega)), ?_⟩
          · omega
          · rcases hX with ⟨e1, e2⟩ | ⟨vx, e1, mx⟩
            · exact .inl ⟨e1, e2⟩
            · exact .inr ⟨vx, e1, rdm⟩
          · intro d hd
            rcases List.mem_append.1 hd with h | h
            · exact hwd d h
            · exact hnw d h
  · have hke : k = ks.length := by omega
    subst hke
    rw [List.drop_length, List.map_nil, joinGo] at hj
    have hND := numbers_den s ds hs (by omega) hwd
    have htk := take_allm eD ds
    clear hkk hk1
    by_cases c : cs.length = ks.length ∧ ks.length > 0
    · rw [if_pos c] at hj
      rw [← hj]
      clear hj hND
      obtain ⟨cl, c0⟩ := c
      rcases hX with ⟨rfl, rfl⟩ | ⟨vx, rfl, mx⟩
      · simp at cl
        omega
      · have htc := take_allm eI cs
        have hle : ks.length ≤ cs.length := by omega
        rw [cl] at htc m6
        replace cl := Asd.mk cl
        (repeat refine stp ?_)
        exact FZ (.loc 46 0)
    · rw [if_neg c] at hj
      rw [← hj]
      clear hj
      rcases hX with ⟨rfl, rfl⟩ | ⟨vx, rfl, mx⟩
      · by_cases c0 : ks.length = 0
        · rw [c0] at h15 h16
          have c1 : (ks.map eR).length = 0 := by simpa using c0
          (repeat refine stp ?_)
          refine Run_gen (fun τ => τ.t 61 = .ro (s.map eI) ∧ τ.t 62 = .own (.loc 7 0) v7 ds.length ∧ τ.t 4 = .ptr (.loc 4 0) v4 0 0 ∧ τ.m (.loc 4 0) = ⟨v4, some (.rows false 63 4 [[.int .i64 0, .nils, .nils, .nils]])⟩ ∧ τ.m (.loc 7 0) = ⟨v7, some (.rows true 70 2 (ds.map eD))⟩) ⟨rd, rd, rd, rdm, rdm⟩ ?_
          clear h0 h1 h14 h15 h16 h4 m4 h6 m6 h7 m7
          rintro τ ⟨h61, h62, h4, m4, m7⟩
          refine RZ (.loc 7 0) ?_
          (repeat refine stp ?_)
          (refine RC (hND) ?_)
          (repeat refine stp ?_)
          exact FE
        · (repeat refine stp ?_)
          refine Run_gen (fun τ => τ.t 61 = .ro (s.map eI) ∧ τ.t 62 = .own (.loc 7 0) v7 ds.length ∧ τ.t 4 = .ptr (.loc 4 0) v4 0 0 ∧ τ.m (.loc 4 0) = ⟨v4, some (.rows false 63 4 [[.int .i64 0, .nils, .nils, .nils]])⟩ ∧ τ.m (.loc 7 0) = ⟨v7, some (.rows true 70 2 (ds.map eD))⟩) ⟨rd, rd, rd, rdm, rdm⟩ ?_
          clear h0 h1 h14 h15 h16 h4 m4 h6 m6 h7 m7
          rintro τ ⟨h61, h62, h4, m4, m7⟩
          refine RZ (.loc 7 0) ?_
          (repeat refine stp ?_)
          (refine RC (hND) ?_)
          (repeat refine stp ?_)
          exact FE
      · by_cases cl : cs.length = ks.length
        · have c0 : ¬ ks.length > 0 := fun h => c ⟨cl, h⟩
          have c0' : ks.length = 0 := by omega
          rw [cl, c0'] at m6
          rw [c0'] at h15 h16
          have c1 : (ks.map eR).length = 0 := by simpa using c0'
          clear c0 c
          (repeat refine stp ?_)
          refine Run_gen (fun τ => τ.t 61 = .ro (s.map eI) ∧ τ.t 62 = .own (.loc 7 0) v7 ds.length ∧ τ.t 4 = .ptr (.loc 4 0) v4 0 0 ∧ τ.m (.loc 4 0) = ⟨v4, some (.rows false 63 4 [[.int .i64 0, .nils, .nils, .nils]])⟩ ∧ τ.m (.loc 7 0) = ⟨v7, some (.rows true 70 2 (ds.map eD))⟩) ⟨rd, rd, rd, rdm, rdm⟩ ?_
          clear h0 h1 h14 h15 h16 h4 m4 h6 m6 h7 m7
          rintro τ ⟨h61, h62, h4, m4, m7⟩
          refine RZ (.loc 7 0) ?_
          (repeat refine stp ?_)
          (refine RC (hND) ?_)
          (repeat refine stp ?_)
          exact FE
        · (repeat refine stp ?_)
          refine Run_gen (fun τ => τ.t 61 = .ro (s.map eI) ∧ τ.t 62 = .own (.loc 7 0) v7 ds.length ∧ τ.t 4 = .ptr (.loc 4 0) v4 0 0 ∧ τ.m (.loc 4 0) = ⟨v4, some (.rows false 63 4 [[.int .i64 0, .nils, .nils, .nils]])⟩ ∧ τ.m (.loc 7 0) = ⟨v7, some (.rows true 70 2 (ds.map eD))⟩) ⟨rd, rd, rd, rdm, rdm⟩ ?_
          clear h0 h1 h14 h15 h16 h4 m4 h6 m6 h7 m7
          rintro τ ⟨h61, h62, h4, m4, m7⟩
          refine RZ (.loc 7 0) ?_
          (repeat refine stp ?_)
          (refine RC (hND) ?_)
          (repeat refine stp ?_)
          exact FE
end Go.Proofs.YtpkjiplgpgbheaaGreatDoor.V
namespace Go.Proofs.YtpkjiplgpgbheaaGreatDoor.V
open Go Go.Proofs Go.Proofs.Ev Go.Proofs.YtpkjiplgpgbheaaGreatDoor Go.Proofs.YtpkjiplgpgbheaaGreatDoor.Sp Go.Proofs.YtpkjiplgpgbheaaGreatDoor.Ba
set_option maxHeartbeats 4000000
set_option maxRecDepth 100000
set_option linter.unusedSimpArgs false
set_option linter.unusedVariables false
set_option linter.unusedSectionVars false
open Fo in
theorem form_den : ∀ (m : Nat) (n : Sp.Nd) (f : Fo), (n :: f.flat).length ≤ m → (node n f nil).ok → (node n f nil).tot ≤ 1048576 → (node n f nil).dep ≤ 16 → (n :: f.flat).length ≤ 1048576 → (∀ x ∈ n :: f.flat, wfN x) →
    Den Tryz.prog 157 [.ro ((n :: f.flat).map eN)] [] (.ro ((form n f).map eN)) [] []
  | 0, n, f, hm, _, _, _, _, _ => by simp at hm
  | m + 1, n, f, hm, hok, ht, hd, hl, hw => by
    have hwn := hw n (by simp)
    have hin := hok.1
    have hdl := data_le hin
    by_cases c3 : n.f0 = 3
    · have hC := copy_arr (n :: f.flat) hl hw
      have hnil : f = nil := hok.2.2.1 (by omega)
      rw [form_char_eq c3]
      subst hnil
      simp only [flat] at hC ⊢
      clear hok ht hd hw hm hl
      (refine den_walk mix Tryz.func157 rfl (by kernel_rfl) rfl [.tmp 2] rfl (by simp) ?_; simp only [bodyOf, Tryz.f157])
      (repeat refine stp ?_)
      (refine RC (hC) ?_)
      (repeat refine stp ?_)
      exact FE
    · by_cases c5 : n.f0 = 5
      · have hkids := kids_den n f hok ht hd c5 hl hw
        obtain ⟨_, h5, _, hk, _⟩ := hok
        have hkl : f.len ≤ 1048576 := ok_len hin h5 (fun h => (h c5).elim)
        have htk : f.tot ≤ 1048576 := by simp only [tot] at ht; omega
        have hdk : f.dep ≤ 16 := by simp only [dep] at hd; omega
        have hfo := form_ok f hk
        have hfw := form_wf f hk (fun x hx => hw x (by simp [hx]))
        have hfl := form_size f
        have hwf : ∀ x ∈ f.flat, wfN x := fun x hx => hw x (by simp [hx])
        have hmf : f.flat.length ≤ m := by simp only [List.length_cons] at hm; omega
        have hlf : f.flat.length ≤ 1048575 := by simp only [List.length_cons] at hl; omega
        have ih : ∀ j, j < f.len → ∃ x y, (trees f)[j]? = some x ∧ (trees (formF f))[j]? = some y ∧ Den Tryz.prog 157 [.ro (x.map eN)] [] (.ro (y.map eN)) [] [] := by
          intro j hj
          obtain ⟨n', k', a1, a2, a3, a4, a5, a6, a7⟩ := trees_at f j hk hj
          exact ⟨_, _, a1, a2, form_den m n' k' (by omega) a3 (by omega) (by omega) (by omega) (fun x hx => hwf x (a6 x hx))⟩
        have hJ := joined_den n.f1 (trees (formF f)) hwn.ls (by rw [trees_len, hfo.2.1]; exact hkl) (fun k hk' => by
          obtain ⟨j, hj⟩ := List.mem_iff_getElem?.1 hk'
          have hjl : j < (formF f).len := by rw [← trees_len]; exact (List.getElem?_eq_some_iff.1 hj).1
          obtain ⟨n', k', a1, a2, a3, a4, a5, a6, a7⟩ := trees_at (formF f) j hfo.1 hjl
          rw [hj] at a1
          cases a1
          exact ⟨n', k'.flat, rfl, hfw n' (a6 n' (by simp)), a3.1⟩)
        rw [heads_trees] at hJ
        have hCc := concat_den (trees (formF f)) (by rw [trees_len, hfo.2.1]; omega) (by rw [trees_join]; omega)
        have hS := clone_int n.f1 hwn.ls
        have hfe := form_nest_eq (k := f) c5
        have hlen1 := trees_len f
        have hlen2 : (trees (formF f)).length = f.len := by rw [trees_len, hfo.2.1]
        have hsz : (trees (formF f)).flatten.length ≤ 1048575 := by rw [trees_join]; omega
        generalize joinL n.f1 (heads (formF f)) = J at *
        generalize trees (formF f) = G at *
        generalize trees f = F at *
        replace hfe := Asd.mk hfe
        clear ht hd hw hm hl hfo hfw hfl hwf hmf hlf htk hdk hk h5
        have hro := sf_eR
        (refine den_walk mix Tryz.func157 rfl (by kernel_rfl) rfl [.tmp 2] rfl (by simp) ?_; simp only [bodyOf, Tryz.f157])
        (repeat refine stp ?_)
        (refine RN (hkids) ?_)
        (repeat refine stp ?_)
        refine Run_loop (fun m σ => ∃ (k v3 v : Nat), σ.t 25 = .int .i64 k ∧ σ.t 24 = .int .i64 f.len ∧ σ.t 3 = .ptr (.loc 3 0) v3 0 0 ∧ σ.m (.loc 3 0) = ⟨v3, some (.rows false 63 4 [eN n])⟩ ∧ σ.t 4 = .own (.loc 22 0) v f.len ∧ σ.m (.loc 22 0) = ⟨v, some (.rows true 44 1 ((G.take k ++ F.drop k).map eR))⟩ ∧ m = f.len - k ∧ k ≤ f.len) f.len ?_ ?_
        · exact ⟨0, _, _, rd, rd, rd, rdm, rd, (by (rw [List.take_zero, List.drop_zero, List.nil_append]; exact rdm)), rfl, by omega⟩
        rintro m σ ⟨k, v3, v, h25, h24, h3, m3, h4, m4, rfl, hk⟩
        by_cases hk1 : k < f.len
        · obtain ⟨x, y, hx, hy, hD⟩ := ih k hk1
          have hget : ((G.take k ++ F.drop k).map eR)[k]? = some [.ro (x.map eN)] := by
            rw [List.getElem?_map, List.getElem?_append_right (by simp; omega)]
            have : k - (G.take k).length = 0 := by simp; omega
            rw [this, drop_get hx]
            rfl
          have hset : ((G.take k ++ F.drop k).map eR).set k [.ro (y.map eN)] = (G.take (k + 1) ++ F.drop (k + 1)).map eR := by
            have e1 : G.take (k + 1) = G.take k ++ [y] := by rw [List.take_add_one, hy]; rfl
            have e2 : (G.take k).length = k := by simp; omega
            rw [e1, drop_get hx, List.map_append, List.set_append_right _ _ (by simp; omega)]
            simp only [List.length_map, e2, Nat.sub_self, List.map_append, List.map_cons, List.map_nil, List.set_cons_zero, List.append_assoc, List.cons_append, List.nil_append]
            rfl
          have hlr : (G.take k ++ F.drop k).length = f.len := by simp; omega
          generalize G.take k ++ F.drop k = R at *
          clear ih hx hy
          (repeat refine stp ?_)
          (refine RC (hD) ?_)
          (repeat refine stp ?_)
          exact ⟨_, by omega, k + 1, v3, v, rd, rd, rd, rdm, rd, rdm, rfl, by omega⟩
        · have hke : k = f.len := by omega
          subst hke
          rw [List.take_of_length_le (by omega), List.drop_of_length_le (by omega), List.append_nil] at m4
          have htk : (G.map eR).take f.len = G.map eR := by rw [← hlen2]; exact take_allm eR G
          have hle : f.len ≤ G.length := by omega
          clear hk1 hk ih
          replace hlen1 := Asd.mk hlen1
          replace hlen2 := Asd.mk hlen2
          (repeat refine stp ?_)
          refine RZ (.loc 22 0) ?_
          (repeat refine stp ?_)
          (refine RC (hJ) ?_)
          (repeat refine stp ?_)
          cases hj : J.2 with
          | true =>
            have := hfe.out
            rw [if_pos hj] at this
            rw [this]
            clear this hfe
            (repeat refine stp ?_)
            exact FZ (.loc 46 0)
          | false =>
            have := hfe.out
            rw [if_neg (by simp [hj])] at this
            rw [this]
            clear this hfe
            have hall := all_eN G.flatten
            have htf := take_allm eN G.flatten
            have h1n : 1 + G.flatten.length = G.flatten.length + 1 := Nat.add_comm _ _
            (repeat refine stp ?_)
            (refine RC (hS) ?_)
            refine R1z ?_
            (repeat refine stp ?_)
            (refine RC (hCc) ?_)
            (repeat refine stp ?_)
            exact FZ (.loc 51 0)
      · rw [form_num_eq c3 c5]
        have hN := nums_den n hwn hdl.1
        have hB := numbers_den n.f1 (numsOf n) hwn.ls (numsOf_le hin) (numsOf_wf hwn)
        have hnil : f = nil := hok.2.2.1 c5
        subst hnil
        simp only [flat]
        clear hok ht hd hw hm hl
        (refine den_walk mix Tryz.func157 rfl (by kernel_rfl) rfl [.tmp 2] rfl (by simp) ?_; simp only [bodyOf, Tryz.f157])
        (repeat refine stp ?_)
        (refine DC (hN) ?_)
        (repeat refine stp ?_)
        (refine DC (hB) ?_)
        (repeat refine stp ?_)
        exact FZ (.loc 64 0)
theorem make_den (a : List Sp.Nd) (ha : a.length ≤ 1048576) (hw : ∀ n ∈ a, wfN n) : Den Tryz.prog 85 [.ro (a.map eN)] [] (.tup [.ro ((makeL a).1.map eN), .bool (makeL a).2]) [] [] := by
  have hR := right_arr a (by omega) hw
  by_cases h : rightL a = true
  · have e : makeL a = (form (treeOf a h).1 (treeOf a h).2, true) := by unfold makeL; rw [dif_pos h]
    have hc := (right_tree h).choose_spec.choose_spec
    have hF : Den Tryz.prog 157 [.ro (a.map eN)] [] (.ro ((form (treeOf a h).1 (treeOf a h).2).map eN)) [] [] := by
      obtain ⟨c1, c2, c3, c4, _⟩ := hc
      have := form_den _ (treeOf a h).1 (treeOf a h).2 (Nat.le_refl _) c2 c3 c4 (by rw [show (treeOf a h).1 :: (treeOf a h).2.flat = a from c1.symm]; exact ha) (by rw [show (treeOf a h).1 :: (treeOf a h).2.flat = a from c1.symm]; exact hw)
      rw [show (treeOf a h).1 :: (treeOf a h).2.flat = a from c1.symm] at this
      exact this
    rw [e]
    generalize form (treeOf a h).1 (treeOf a h).2 = G at *
    clear e hc
    rw [h] at hR
    (refine den_walk mix Tryz.func85 rfl (by kernel_rfl) rfl [.tmp 2, .tmp 3] rfl (by simp) ?_; simp only [bodyOf, Tryz.f85])
    (repeat refine stp ?_)
    (refine RC (hR) ?_)
    (repeat refine stp ?_)
    (refine RC (hF) ?_)
    (repeat refine stp ?_)
    exact FE
  · have e : makeL a = ([], false) := by unfold makeL; rw [dif_neg h]
    rw [e]
    clear e
    have h' : rightL a = false := by simpa using h
    rw [h'] at hR
    (refine den_walk mix Tryz.func85 rfl (by kernel_rfl) rfl [.tmp 2, .tmp 3] rfl (by simp) ?_; simp only [bodyOf, Tryz.f85])
    (repeat refine stp ?_)
    (refine RC (hR) ?_)
    (repeat refine stp ?_)
    exact FZ (.loc 2 0)
end Go.Proofs.YtpkjiplgpgbheaaGreatDoor.V
namespace Go.Proofs.YtpkjiplgpgbheaaGreatDoor.V
open Go Go.Proofs Go.Proofs.Ev Go.Proofs.YtpkjiplgpgbheaaGreatDoor Go.Proofs.YtpkjiplgpgbheaaGreatDoor.Sp Go.Proofs.YtpkjiplgpgbheaaGreatDoor.Ba
set_option maxHeartbeats 4000000
set_option maxRecDepth 100000
set_option linter.unusedSimpArgs false
set_option linter.unusedVariables false
set_option linter.unusedSectionVars false
theorem eqBy_iff {α : Type} {p : α → α → Bool} (hp : ∀ x y, p x y = true ↔ x = y) : ∀ (a b : List α), a.length = b.length → (eqBy p a b = true ↔ a = b)
  | [], [], _ => by simp [eqBy]
  | x :: a, y :: b, h => by
    rw [eqBy, Bool.and_eq_true, hp, eqBy_iff hp a b (by simpa using h), List.cons.injEq]
  | [], _ :: _, h => by simp at h
  | _ :: _, [], h => by simp at h
theorem same_iff {α : Type} {p : α → α → Bool} (hp : ∀ x y, p x y = true ↔ x = y) (a b : List α) : same p a b = true ↔ a = b := by
  unfold same
  rw [Bool.and_eq_true, decide_eq_true_eq]
  refine ⟨fun ⟨h1, h2⟩ => (eqBy_iff hp a b h1).1 h2, fun h => ?_⟩
  subst h
  exact ⟨rfl, (eqBy_iff hp a a rfl).2 rfl⟩
theorem pI_iff (x y : Int) : pI x y = true ↔ x = y := by simp [pI]
theorem pD_iff (x y : Sp.Dec) : pD x y = true ↔ x = y := by
  cases x; cases y; simp [pD]
theorem seq_iff (x y : ByteArray) : Sp.seq x y = true ↔ x = y := by
  unfold Sp.seq
  rw [beq_iff_eq]
  refine ⟨fun h => ?_, fun h => by rw [h]⟩
  rw [Ba.toList_eq, Ba.toList_eq] at h
  exact Ba.data_inj h
theorem pN_iff (x y : Sp.Nd) : pN x y = true ↔ x = y := by
  unfold pN
  rw [Bool.and_eq_true, Bool.and_eq_true, Bool.and_eq_true, same_iff pI_iff, same_iff pI_iff, same_iff pD_iff, beq_iff_eq]
  cases x; cases y; simp
theorem makeL_facts (a : List Sp.Nd) (hw : ∀ n ∈ a, wfN n) : (makeL a).1.length ≤ a.length ∧ ∀ n ∈ (makeL a).1, wfN n := by
  unfold makeL
  split
  · rename_i h
    obtain ⟨c1, c2, c3, c4, _⟩ := (right_tree h).choose_spec.choose_spec
    have e : (treeOf a h).1 :: (treeOf a h).2.flat = a := c1.symm
    have hf := form_flat (treeOf a h).1 (treeOf a h).2
    have hs := form_size (Fo.node (treeOf a h).1 (treeOf a h).2 .nil)
    have hwf := form_wf (Fo.node (treeOf a h).1 (treeOf a h).2 .nil) c2 (by simp only [Fo.flat, List.append_nil]; rw [e]; exact hw)
    rw [hf] at hs hwf
    refine ⟨?_, hwf⟩
    simp only [Fo.flat, List.append_nil] at hs
    rw [e] at hs
    exact hs
  · exact ⟨Nat.zero_le _, fun n hn => by cases hn⟩
theorem tight_den (a : List Sp.Nd) (ha : a.length ≤ 1048576) (hw : ∀ n ∈ a, wfN n) : Den Tryz.prog 37 [.ro (a.map eN)] [] (.bool (tightR a)) [] [] := by
  have hM := make_den a ha hw
  obtain ⟨h1, h2⟩ := makeL_facts a hw
  have hS := same_den a (makeL a).1 (by omega) (by omega) hw h2
  cases hb : (makeL a).2 with
  | false =>
    have e : tightR a = false := by unfold tightR; rw [hb]; rfl
    rw [e]
    clear e
    (refine den_walk mix Tryz.func37 rfl (by kernel_rfl) rfl [.tmp 2] rfl (by simp) ?_; simp only [bodyOf, Tryz.f37])
    (repeat refine stp ?_)
    (refine RC (hM) ?_)
    (repeat refine stp ?_)
    exact FE
  | true =>
    have e : tightR a = same pN a (makeL a).1 := by
      unfold tightR
      rw [hb, Bool.true_and]
      cases hs : same pN a (makeL a).1 with
      | true => have h := (same_iff pN_iff _ _).1 hs; simp only [← h, decide_true]
      | false =>
        have h : ¬ a = (makeL a).1 := fun h => by rw [(same_iff pN_iff _ _).2 h] at hs; cases hs
        simp only [h, decide_false]
    rw [e]
    clear e
    (refine den_walk mix Tryz.func37 rfl (by kernel_rfl) rfl [.tmp 2] rfl (by simp) ?_; simp only [bodyOf, Tryz.f37])
    (repeat refine stp ?_)
    (refine RC (hM) ?_)
    (repeat refine stp ?_)
    (refine RC (hS) ?_)
    (repeat refine stp ?_)
    exact FE
end Go.Proofs.YtpkjiplgpgbheaaGreatDoor.V
namespace Go.Proofs.YtpkjiplgpgbheaaGreatDoor.V
open Go Go.RowKit Go.Proofs Go.Proofs.Ev Go.Proofs.YtpkjiplgpgbheaaGreatDoor Go.Proofs.YtpkjiplgpgbheaaGreatDoor.Sp Go.Proofs.YtpkjiplgpgbheaaGreatDoor.Dm Go.Proofs.YtpkjiplgpgbheaaGreatDoor.Ba Go.Proofs.YtpkjiplgpgbheaaGreatDoor.NuP Go.Proofs.YtpkjiplgpgbheaaGreatDoor.Nt
set_option maxHeartbeats 4000000
set_option maxRecDepth 100000
set_option linter.unusedSimpArgs false
set_option linter.unusedVariables false
/-- What fits is a sign. -/
theorem fits_valid {v : Int} (h : fitsB 3 v = true) : Lib.validRune v = true := by
  unfold fitsB at h
  rw [if_neg (by decide), if_neg (by decide), if_pos rfl] at h
  split at h
  · rename_i hv
    have h2 := valid_in h
    generalize wrap32 v = u at *
    have e : u = v := by unfold wrap64 at hv; omega
    rwa [e] at h
  · cases h
theorem text_pos (n : Nd) (k : Fo) (h : 0 ≤ items n) : 0 < (textT n k).length := by
  unfold textT
  rw [List.length_append]
  by_cases hs : 0 < n.f1.length
  · unfold headN
    rw [if_pos hs, List.length_append]
    simp only [List.length_cons, List.length_nil]
    omega
  by_cases h5 : n.f0 = 5
  · unfold headN
    rw [if_neg hs, if_pos h5]
    simp only [List.length_cons, List.length_nil]
    omega
  rw [if_neg h5]
  have h1 : n.f1 = [] := by simpa using hs
  unfold items at h
  rw [h1] at h
  have hc : cnt [] = (1, true) := by decide
  rw [hc] at h
  simp only [Bool.true_eq_false, if_false] at h
  split at h
  · simp at h
  · rename_i i d hw
    split at h
    · simp at h
    rename_i hi
    split at h
    · simp at h
    rename_i hd
    split at h
    · simp at h
    rename_i hf
    split at h
    · simp at h
    rename_i hr
    simp only [ne_eq, Decidable.not_not] at hi hd
    unfold wants at hw
    unfold valueN
    split at hw
    · rename_i k3
      cases hw
      obtain ⟨x, hx⟩ : ∃ x, n.f2 = [x] := List.length_eq_one_iff.1 (by omega)
      rw [hx] at hf
      have hfx : fitsB n.f0 x = true := by simpa using hf
      have h4 : n.f0 ≠ 4 := by omega
      by_cases e3 : n.f0 = 3
      · rw [e3] at hfx
        have hv := fits_valid hfx
        rw [if_pos e3, hx]
        unfold textQ
        rw [if_pos (by simp [hv]), ba_data]
        simp only [List.length_cons]
        omega
      · rw [if_neg e3, if_neg h4, if_neg (by rw [hx]; simp), hx]
        have : intsL [x] = numL x := by simp [intsL, Lib.join]
        rw [this]
        have := List.length_pos_iff.2 (numL_ne_nil x)
        omega
    · split at hw
      · rename_i e4
        cases hw
        obtain ⟨x, hx⟩ : ∃ x, n.f3 = [x] := List.length_eq_one_iff.1 (by omega)
        rw [hx] at hr
        have hrx : rightB x = true := by simpa using hr
        have hrs : rightS x := by
          unfold rightB at hrx
          exact (rightD_iff _ _).1 hrx
        rw [if_neg (by omega), if_pos e4, hx]
        have : decsL [x] = textS x := by
          unfold decsL
          rw [if_pos (by intro y hy; rw [List.mem_singleton.1 hy]; exact hrs)]
          simp [Lib.join]
        rw [this]
        unfold textS textL
        rw [if_pos (show isRight x.f0 x.f1 from hrs)]
        split
        · have := List.length_pos_iff.2 (numL_ne_nil x.f0); omega
        · rw [List.length_append]; simp only [List.length_cons]; omega
      · first | (rw [if_neg h5] at hw; cases hw) | cases hw
theorem text_no (a : List Nd) (ha : a.length ≤ 1048576) (hw : ∀ n ∈ a, wfN n) (h : tightR a = false) : Den Tryz.prog 34 [.ro (a.map eN)] [] (.str e0) [] [] := by
  have hT := tight_den a ha hw
  rw [h] at hT
  clear hw h
  (refine den_walk mix Tryz.func34 rfl (by kernel_rfl) rfl [.tmp 2] rfl (by simp) ?_; simp only [bodyOf, Tryz.f34])
  (repeat refine stp ?_)
  (refine RC (hT) ?_)
  (repeat refine stp ?_)
  exact FE
theorem text_yes (n : Nd) (k : Fo) (h : tightR (n :: k.flat) = true) (hok : (Fo.node n k .nil).ok) (hs : ∀ x ∈ n :: k.flat, smN x) (hl : k.flat.length + 1 ≤ 1048576) (hz : (textT n k).length ≤ 100000000000000) : Den Tryz.prog 34 [.ro ((n :: k.flat).map eN)] [] (.str (ba (textT n k))) [] [] := by
  have hT := tight_den (n :: k.flat) (by simp only [List.length_cons]; omega) (fun x hx => (hs x hx).1)
  rw [h] at hT
  have hW := (write_all _ hok (fun x hx => hs x (by simpa [Fo.flat] using hx))).1 [] .nilp [] (textT n k) (cW n k) (.inl rfl) rfl rfl hz (by rw [List.append_nil]; omega)
  rw [List.append_nil] at hW
  have h0 := text_pos n k hok.1
  have hS := bstr_den (.ptr (.ext 0) 0 0 0) (.inr rfl) (textT n k) h0
  generalize textT n k = q at *
  generalize cW n k = c at *
  generalize n :: k.flat = L at *
  clear hok hs h
  (refine den_walk mix Tryz.func34 rfl (by kernel_rfl) rfl [.tmp 2] rfl (by simp) ?_; simp only [bodyOf, Tryz.f34])
  (repeat refine stp ?_)
  (refine RC (hT) ?_)
  (repeat refine stp ?_)
  refine RGh (Gh.nilcell (b := .loc 3 0) (v := 1) (e := 117) (sz := 2) (rs := [[.nilp, .nils]]) (by exact q_) 0 1 rfl rfl (.loc 99 0) 5 1 (by decide) (v' := 0) (by exact q_) (by decide)) ?_
  refine RX [.loc 3 0, .loc 99 0] hW ?_
  (repeat refine stp ?_)
  refine RX [.loc 3 0, .loc 99 0] hS ?_
  (repeat refine stp ?_)
  exact FE
end Go.Proofs.YtpkjiplgpgbheaaGreatDoor.V
namespace Go.Proofs.YtpkjiplgpgbheaaGreatDoor.V
open Go Go.Proofs Go.Proofs.Ev Go.Proofs.YtpkjiplgpgbheaaGreatDoor Go.Proofs.YtpkjiplgpgbheaaGreatDoor.Sp Go.Proofs.YtpkjiplgpgbheaaGreatDoor.Ba
set_option maxHeartbeats 4000000
set_option maxRecDepth 100000
set_option linter.unusedSimpArgs false
set_option linter.unusedVariables false
set_option linter.unusedSectionVars false
theorem dec_pos (s : ByteArray) (i : Nat) : 1 ≤ (Utf8.decode s i).2 ∧ (Utf8.decode s i).2 ≤ 4 := by
  unfold Utf8.decode
  simp only
  repeat' split
  all_goals simp
end Go.Proofs.YtpkjiplgpgbheaaGreatDoor.V
namespace Go.Proofs.YtpkjiplgpgbheaaGreatDoor.V
open Go Go.Proofs Go.Proofs.Ev Go.Proofs.YtpkjiplgpgbheaaGreatDoor Go.Proofs.YtpkjiplgpgbheaaGreatDoor.Sp Go.Proofs.YtpkjiplgpgbheaaGreatDoor.Ba
set_option maxHeartbeats 4000000
set_option maxRecDepth 100000
set_option linter.unusedSimpArgs false
set_option linter.unusedVariables false
set_option linter.unusedSectionVars false
theorem hasP_den (s t : ByteArray) (hs : s.size ≤ 1099511627776) (ht : t.size ≤ 1099511627776) : Den Tryz.prog 210 [.str s, .str t] [] (.bool (hasP s t)) [] [] := by
  have h1 : Den Tryz.prog 263 [.str s, .str t] [] (.bool (hasP s t)) [] [] := by
    unfold hasP
    by_cases h : t.size ≤ s.size
    · rw [decide_eq_true h, Bool.true_and]
      (refine den_walk mix Tryz.func263 rfl (by kernel_rfl) rfl [.tmp 4] rfl (by simp) ?_; simp only [bodyOf, Tryz.f263])
      (repeat refine stp ?_)
      exact FE
    · rw [decide_eq_false h, Bool.false_and]
      (refine den_walk mix Tryz.func263 rfl (by kernel_rfl) rfl [.tmp 4] rfl (by simp) ?_; simp only [bodyOf, Tryz.f263])
      (repeat refine stp ?_)
      exact FE
  (refine den_walk mix Tryz.func210 rfl (by kernel_rfl) rfl [.tmp 4] rfl (by simp) ?_; simp only [bodyOf, Tryz.f210])
  (repeat refine stp ?_)
  (refine RC (h1) ?_)
  (repeat refine stp ?_)
  exact FE
theorem cutP_den (s t : ByteArray) : Den Tryz.prog 208 [.str s, .str t] [] (.tup [.str (cutP s t).1, .bool (cutP s t).2]) [] [] :=
  den_of_calls (us := [.string s, .string t]) rfl rfl (fun w hT => (Tryz.strings_CutPrefix s t w).mono fun e w' h => ⟨h.1, by rw [h.2]; exact RowKit.Below.refl _ w⟩)
theorem cutP_le (s t : ByteArray) : (cutP s t).1.size ≤ s.size := by
  unfold cutP Lib.trimPrefix
  simp only
  split
  · rw [← ByteArray.size_data, List.size_toArray, List.length_drop]
    rw [← ByteArray.size_data, ← Array.length_toList]
    omega
  · rw [← ByteArray.size_data, List.size_toArray, Array.length_toList, ByteArray.size_data]
    exact Nat.le_refl _
/-- The parser's block: what is left. -/
@[go_sem] def prC (l : ByteArray) : Cont := .rows false 216 1 [[.str l]]
end Go.Proofs.YtpkjiplgpgbheaaGreatDoor.V
namespace Go.Proofs.YtpkjiplgpgbheaaGreatDoor.V
open Go Go.RowKit Go.Proofs Go.Proofs.Ev Go.Proofs.YtpkjiplgpgbheaaGreatDoor Go.Proofs.YtpkjiplgpgbheaaGreatDoor.Sp Go.Proofs.YtpkjiplgpgbheaaGreatDoor.Ba Go.Proofs.YtpkjiplgpgbheaaGreatDoor.G
set_option maxHeartbeats 4000000
set_option maxRecDepth 100000
set_option linter.unusedSimpArgs false
set_option linter.unusedVariables false
set_option linter.unusedSectionVars false
attribute [go_sem] len_eI len_eS len_eD len_eN len_eO sf_eI sf_eS sf_eD sf_eN sf_eO take_allm
@[go_sem] theorem toNat_add1 (k : Nat) : ((k : Int) + 1).toNat = k + 1 := by omega
/-- The tables stay where the memory is as it was. -/
theorem tabs_kept {w : World} (h : Tabs w) (w' : World) (hk : ∀ k, k < w.heap.size → w'.heap[k]? = w.heap[k]?) : Tbl.T Tryz.prog w' := by
  let v : World := { w' with os := w.os, tape := w.tape, output := w.output }
  have hs : w.heap.size ≤ w'.heap.size := by
    refine Nat.le_of_not_lt (fun hlt => ?_)
    have := hk _ hlt
    rw [Array.getElem?_eq_none (Nat.le_refl _), Array.getElem?_eq_getElem hlt] at this
    cases this
  have hb : Below w.heap.size w v := ⟨rfl, rfl, rfl, hs, fun k hk2 => hk k hk2⟩
  have ht : Tabs v := h.below hb
  cases ht
  constructor <;> assumption
end Go.Proofs.YtpkjiplgpgbheaaGreatDoor.V
