/- What the laws lean on, part 7: texts of this claim, merged and cut to what is used. -/
import Derived.Lib.CountLaws
import Derived.Lib.Replace
import Derived.Test.YtpkjiplgpgbheaaGreatDoorP14EpDe
import Derived.Test.YtpkjiplgpgbheaaGreatDoorP14EpSp3
import Derived.Test.YtpkjiplgpgbheaaGreatDoorP146
set_option linter.unusedVariables false
set_option linter.unusedSimpArgs false
set_option linter.unusedSectionVars false
namespace Go.Proofs.YtpkjiplgpgbheaaGreatDoor.V
open Go Go.RowKit Go.Proofs Go.Proofs.Ev Go.Proofs.YtpkjiplgpgbheaaGreatDoor Go.Proofs.YtpkjiplgpgbheaaGreatDoor.Sp Go.Proofs.YtpkjiplgpgbheaaGreatDoor.Dm Go.Proofs.YtpkjiplgpgbheaaGreatDoor.De Go.Proofs.YtpkjiplgpgbheaaGreatDoor.Ba Go.Proofs.YtpkjiplgpgbheaaGreatDoor.G
set_option maxHeartbeats 4000000
set_option maxRecDepth 100000
set_option linter.unusedSimpArgs false
set_option linter.unusedVariables false
theorem grow_b (w : World) (k : Nat) (os : Array Obj) : Below w.heap.size w (Sort.grow (w.drewN k) os) := G.grow_below w k os
theorem itoa_den (n : Int) (h : I n) : Den Tryz.prog 165 [.int .i64 n] [] (.str (ba (Lib.itoa n))) [] [] :=
  den_of_calls (us := [.int .i64 n]) rfl rfl (fun w hT => (Tryz.strconv_Itoa n h.1 h.2 w hT.pow10).mono (fun e w' ⟨h1, k, os, h2⟩ => ⟨h1, h2 ▸ grow_b w k os⟩))
theorem trimP_den (s p : ByteArray) : Den Tryz.prog 282 [.str s, .str p] [] (.str (ba (Lib.trimPrefix s.data.toList p.data.toList))) [] [] :=
  den_of_calls (us := [.string s, .string p]) rfl rfl (fun w hT => (Tryz.strings_TrimPrefix s p w).mono (fun e w' ⟨h1, h2⟩ => ⟨h1, h2 ▸ Below.refl _ _⟩))
theorem hasPf_den (s p : ByteArray) : Den Tryz.prog 210 [.str s, .str p] [] (.bool (Lib.hasPrefix s.data.toList p.data.toList)) [] [] :=
  den_of_calls (us := [.string s, .string p]) rfl rfl (fun w hT => (Tryz.strings_HasPrefix s p w).mono (fun e w' ⟨h1, h2⟩ => ⟨h1, h2 ▸ Below.refl _ _⟩))
theorem cutPf_den (s p : ByteArray) : Den Tryz.prog 208 [.str s, .str p] [] (.tup [.str (ba (Lib.trimPrefix s.data.toList p.data.toList)), .bool (Lib.hasPrefix s.data.toList p.data.toList)]) [] [] :=
  den_of_calls (us := [.string s, .string p]) rfl rfl (fun w hT => (Tryz.strings_CutPrefix s p w).mono (fun e w' ⟨h1, h2⟩ => ⟨h1, h2 ▸ Below.refl _ _⟩))
theorem idxB_den (s : ByteArray) (c : Int) : Den Tryz.prog 295 [.str s, .int .u8 c] [] (.int .i64 (Lib.indexByte s.data.toList c.toNat.toUInt8)) [] [] :=
  den_of_calls (us := [.string s, .int .u8 c]) rfl rfl (fun w hT => (Tryz.strings_IndexByte s c w).mono (fun e w' ⟨h1, h2⟩ => ⟨h1, h2 ▸ Below.refl _ _⟩))
theorem vrune_den (c : Int) : Den Tryz.prog 93 [.int .i32 c] [] (.bool (Lib.validRune c)) [] [] :=
  den_of_calls (us := [.int .i32 c]) rfl rfl (fun w hT => (Tryz.utf8_ValidRune c w).mono (fun e w' ⟨h1, h2⟩ => ⟨h1, h2 ▸ Below.refl _ _⟩))
theorem cut_den (s p : ByteArray) (hs : s.size < 4294967281) : Den Tryz.prog 314 [.str s, .str p] [] (.tup [.str (ba (Lib.cut s.data.toList p.data.toList).1), .str (ba (Lib.cut s.data.toList p.data.toList).2.1), .bool (Lib.cut s.data.toList p.data.toList).2.2]) [] [] :=
  den_of_calls (us := [.string s, .string p]) rfl rfl (fun w hT => by
    obtain ⟨m, hm⟩ := hT.maxlen
    refine (Tryz.strings_Cut s p m w hs hm).mono (fun e w' ⟨h1, n, h2⟩ => ⟨h1, ?_⟩)
    subst h2
    exact grow_b w n #[])
theorem repl_den (s old new : ByteArray) (n : Int) (hs : s.size < 4294967281) (h1 : 1 ≤ old.size) (hl : s.size + Lib.countB s old * new.size ≤ 140737488355328) : Den Tryz.prog 164 [.str s, .str old, .str new, .int .i64 n] [] (.str (ba (Lib.replace s.data.toList old.data.toList new.data.toList n))) [] [] :=
  den_of_calls (us := [.string s, .string old, .string new, .int .i64 n]) rfl rfl (fun w hT => by
    obtain ⟨m, hm⟩ := hT.maxlen
    exact Tryz.strings_Replace s old new n m w hs hm h1 hl)
/-- How strconv.Atoi's error is told. -/
def atoiE (l : List UInt8) : PV := if atoiOk l = true then .nili else .ife
theorem atoi_den (s : ByteArray) (hs : s.size ≤ 281474976710656) : Den Tryz.prog 297 [.str s] [] (.tup [.int .i64 (atoiVal s.data.toList), atoiE s.data.toList]) [] [] := by
  refine den_of_rel (fun c us hT hlen hargs => ?_)
  match us, hlen with
  | [u], _ =>
  have h0 := hargs 0 _ _ rfl rfl
  cases h0
  have hT : G.Tabs c.w := hT c.w (fun _ _ => rfl)
  have hR : ∀ (d : Cx) (v : Int) (x : PV) (u : Value), RelV d x u → RelV d (.tup [.int .i64 v, x]) (.tuple #[.int .i64 v, u]) := fun d v x u h => .tup _ [.int .i64 v, u] rfl (fun i y z hy hz => by
    match i, hy, hz with
    | 0, hy, hz => cases hy; cases hz; exact .int _ _
    | 1, hy, hz => cases hy; cases hz; exact h)
  unfold atoiE atoiVal atoiOk
  cases h : Lib.atoiAll s.data.toList with
  | ok v =>
    refine (Tryz.strconv_Atoi_ok s (by omega) v h c.w).mono fun e w' ⟨he, hw⟩ => ⟨_, he, fun d => hR d v _ _ .nili, ?_⟩
    rcases hw with rfl | ⟨t, rfl⟩
    · exact Below.refl _ _
    · exact Lib.bytesWorld_below c.w _ t
  | «syntax» =>
    obtain ⟨te, pe, hc⟩ := hT.errS
    exact (Tryz.strconv_Atoi_syntax s hs h _ c.w hc (.inr ⟨te, pe, rfl⟩)).mono fun e w' ⟨N, he, _, _, hb⟩ => ⟨_, he, fun d => hR d 0 _ _ (.ife _ _), hb⟩
  | range =>
    obtain ⟨te, pe, hc⟩ := hT.errR
    exact (Tryz.strconv_Atoi_range s hs h _ c.w hc (.inr ⟨te, pe, rfl⟩)).mono fun e w' ⟨N, he, _, _, hb⟩ => ⟨_, he, fun d => hR d _ _ _ (.ife _ _), hb⟩
/-- A row of texts, joined. -/
def joinB (l : List ByteArray) (sep : ByteArray) : List UInt8 := Lib.join (l.map (·.data.toList)) sep.data.toList
theorem join_den (l : List ByteArray) (sep : ByteArray) (hl : l.length ≤ 140737488355328) (hj : (joinB l sep).length ≤ 140737488355328) : Den Tryz.prog 91 [.ro (l.map eS), .str sep] [] (.str (ba (joinB l sep))) [] [] := by
  refine den_of_rel (fun c us hT hlen hargs => ?_)
  match us, hlen with
  | [u, v], _ =>
  have h0 := hargs 0 _ _ rfl rfl
  have h1 := hargs 1 _ _ rfl rfl
  cases h1
  generalize hv : PV.ro (l.map eS) = q at h0
  cases h0 with
  | ro rows A cap sz f hn hA hz hb hf hc h =>
    injection hv with hv
    subst hv
    cases l with
    | nil => exact (Tryz.strings_Join_none A cap sep c.w).mono fun e w' ⟨he, hw⟩ => ⟨_, he, fun d => .str _, hw ▸ Below.refl _ _⟩
    | cons x xs =>
      cases A with
      | none => have := (hA rfl).1; simp at this
      | some ad =>
        obtain ⟨b1, b2, b3⟩ := hb ad rfl (by simp)
        have hsz : sz = 1 := (hz 0 _ rfl).symm
        subst hsz
        obtain ⟨bk, o, sp⟩ := ad
        simp only at b1 b3
        subst b1
        have e1 : ((x :: xs).map eS).length = (x :: xs).length := by rw [List.length_map]
        rw [e1] at hn ⊢
        refine (Tryz.strings_Join bk o cap (x :: xs) sep c.w (fun j y hy => ?_) b3 hl hn hj).mono fun e w' ⟨he, hw⟩ => ⟨_, he, fun d => .str _, hw⟩
        have hr : ((x :: xs).map eS)[j]? = some (eS y) := by rw [List.getElem?_map, hy]; rfl
        have hc1 := hc _ j _ 0 _ rfl hr rfl
        have hr1 := h j _ 0 _ hr rfl
        generalize f j 0 = z at hc1 hr1
        cases hr1
        simpa using hc1
  | _ => cases hv
end Go.Proofs.YtpkjiplgpgbheaaGreatDoor.V
namespace Go.Proofs.YtpkjiplgpgbheaaGreatDoor.V
open Go Go.RowKit Go.Proofs Go.Proofs.Ev Go.Proofs.YtpkjiplgpgbheaaGreatDoor Go.Proofs.YtpkjiplgpgbheaaGreatDoor.Sp Go.Proofs.YtpkjiplgpgbheaaGreatDoor.Dm Go.Proofs.YtpkjiplgpgbheaaGreatDoor.De Go.Proofs.YtpkjiplgpgbheaaGreatDoor.Ba
set_option maxHeartbeats 4000000
set_option maxRecDepth 100000
set_option linter.unusedSimpArgs false
set_option linter.unusedVariables false
theorem wr64 (n : Int) : IntKind.i64.wrap n = wrap64 n := IntWalk.i64_left n
theorem I_div {m : Int} (h : I m) : I (Int.tdiv m 10) := by
  have : (Int.tdiv m 10).natAbs = m.natAbs / 10 := by rw [Int.natAbs_tdiv]; rfl
  unfold I at h ⊢
  omega
theorem I_iff {n : Int} (h : I n) : -9223372036854775808 ≤ n ∧ n ≤ 9223372036854775807 := h
theorem norm_den (x : Sp.Dec) (h : wfD x) : Den Tryz.prog 95 [.agg (eD x)] [] (.tup [.agg [.int .i64 (normD x.f0 x.f1).1, .int .i64 (normD x.f0 x.f1).2.1], .bool (normD x.f0 x.f1).2.2]) [] [] := by
  obtain ⟨m, e⟩ := x
  obtain ⟨im, ie⟩ := h
  have im' := I_iff im
  have ie' := I_iff ie
  simp only at im ie im' ie'
  unfold normD
  by_cases h0 : m = 0
  · rw [if_pos h0]
    (refine den_walk mix Tryz.func95 rfl (by kernel_rfl) rfl [.cell 2 70, .tmp 3] rfl (by simp) ?_; simp only [bodyOf, Tryz.f95])
    (repeat refine stp ?_)
    exact FE
  · rw [if_neg h0]
    (refine den_walk mix Tryz.func95 rfl (by kernel_rfl) rfl [.cell 2 70, .tmp 3] rfl (by simp) ?_; simp only [bodyOf, Tryz.f95])
    (repeat refine stp ?_)
    refine Run_loop (fun q σ => ∃ (a b : Int), σ.t 1 = .ptr (.loc 1 0) 1 0 0 ∧ σ.m (.loc 1 0) = ⟨1, some (.rows false 70 2 [[.int .i64 a, .int .i64 b]])⟩ ∧ σ.t 2 = .ptr (.loc 2 0) 1 0 0 ∧ σ.m (.loc 2 0) = ⟨1, some (.rows false 70 2 [[.int .i64 0, .int .i64 0]])⟩ ∧ a ≠ 0 ∧ I a ∧ I b ∧ strip a b = strip m e ∧ q = a.natAbs) m.natAbs ?_ ?_
    · exact ⟨m, e, rd, rdm, rd, rdm, h0, im, ie, rfl, rfl⟩
    rintro q σ ⟨a, b, h1, hm1, h2, hm2, ha, ia, ib, hst, rfl⟩
    have ia' := I_iff ia
    have ib' := I_iff ib
    by_cases hc : Int.tmod a 10 = 0
    · by_cases hb : b ≤ 32767
      · have hn : (Int.tdiv a 10).natAbs = a.natAbs / 10 := by rw [Int.natAbs_tdiv]; rfl
        have hi := I_div ia
        have hi' := I_iff hi
        have hd := tdiv_ne ha hc
        rw [strip_go ⟨ha, hc, hb⟩] at hst
        replace hst := Asd.mk hst
        (repeat refine stp ?_)
        exact ⟨(Int.tdiv a 10).natAbs, by omega, Int.tdiv a 10, b + 1, rd, rdm, rd, rdm, hd, hi, by unfold I; omega, hst.out, rfl⟩
      · rw [strip_stop (fun k => hb k.2.2)] at hst
        rw [← hst]
        simp only
        rw [if_neg (show ¬ b < -32768 by omega), if_pos (show b > 32767 by omega)]
        clear hst
        (repeat refine stp ?_)
        exact FE
    · rw [strip_stop (fun k => hc k.2.1)] at hst
      rw [← hst]
      simp only
      clear hst
      by_cases hb : b < -32768
      · rw [if_pos hb]
        (repeat refine stp ?_)
        exact FE
      · rw [if_neg hb]
        by_cases hb2 : b > 32767
        · rw [if_pos hb2]
          (repeat refine stp ?_)
          exact FE
        · rw [if_neg hb2]
          (repeat refine stp ?_)
          exact FE
end Go.Proofs.YtpkjiplgpgbheaaGreatDoor.V
namespace Go.Proofs.YtpkjiplgpgbheaaGreatDoor.V
open Go Go.RowKit Go.Proofs Go.Proofs.Ev Go.Proofs.YtpkjiplgpgbheaaGreatDoor Go.Proofs.YtpkjiplgpgbheaaGreatDoor.Sp Go.Proofs.YtpkjiplgpgbheaaGreatDoor.Dm Go.Proofs.YtpkjiplgpgbheaaGreatDoor.De Go.Proofs.YtpkjiplgpgbheaaGreatDoor.Ba
set_option maxHeartbeats 4000000
set_option maxRecDepth 100000
set_option linter.unusedSimpArgs false
set_option linter.unusedVariables false
theorem right_den (x : Sp.Dec) (h : wfD x) : Den Tryz.prog 43 [.agg (eD x)] [] (.bool (rightB x)) [] [] := by
  have hN := norm_den x h
  unfold rightB rightD
  generalize normD x.f0 x.f1 = q at *
  cases hq : q.2.2 with
  | true =>
    rw [hq] at hN
    (refine den_walk mix Tryz.func43 rfl (by kernel_rfl) rfl [.tmp 2] rfl (by simp) ?_; simp only [bodyOf, Tryz.f43])
    (repeat refine stp ?_)
    (refine RC (hN) ?_)
    (repeat refine stp ?_)
    (rw [Bool.true_and]; exact FE)
  | false =>
    rw [hq] at hN
    (refine den_walk mix Tryz.func43 rfl (by kernel_rfl) rfl [.tmp 2] rfl (by simp) ?_; simp only [bodyOf, Tryz.f43])
    (repeat refine stp ?_)
    (refine RC (hN) ?_)
    (repeat refine stp ?_)
    (rw [Bool.false_and]; exact FE)
theorem of_den (n : Int) (h : I n) : Den Tryz.prog 41 [.int .i64 n] [] (.agg [.int .i64 (ofB n).f0, .int .i64 (ofB n).f1]) [] [] := by
  have hN := norm_den ⟨n, 0⟩ ⟨h, (⟨by decide, by decide⟩ : I 0)⟩
  unfold ofB
  simp only [eD] at hN
  generalize normD n 0 = q at *
  (refine den_walk mix Tryz.func41 rfl (by kernel_rfl) rfl [.cell 2 70] rfl (by simp) ?_; simp only [bodyOf, Tryz.f41])
  (repeat refine stp ?_)
  (refine RC (hN) ?_)
  (repeat refine stp ?_)
  exact FE
theorem whole_den (x : Sp.Dec) (h : wfD x) : Den Tryz.prog 45 [.agg (eD x)] [] (.tup [.int .i64 (wholeB x).1, .bool (wholeB x).2]) [] [] := by
  have hR := right_den x h
  obtain ⟨m, e⟩ := x
  obtain ⟨im, ie⟩ := h
  have im' := I_iff im
  have ie' := I_iff ie
  simp only at im ie im' ie'
  unfold rightB at hR
  rw [rightD_eq] at hR
  unfold wholeB whole
  simp only
  by_cases hr : isRight m e
  case neg =>
    rw [decide_eq_false hr] at hR
    rw [if_neg (fun k => hr k.1)]
    (refine den_walk mix Tryz.func45 rfl (by kernel_rfl) rfl [.tmp 2, .tmp 3] rfl (by simp) ?_; simp only [bodyOf, Tryz.f45])
    (repeat refine stp ?_)
    (refine RC (hR) ?_)
    (repeat refine stp ?_)
    exact FE
  rw [decide_eq_true hr] at hR
  by_cases h0 : e < 0
  · rw [if_neg (by omega)]
    (refine den_walk mix Tryz.func45 rfl (by kernel_rfl) rfl [.tmp 2, .tmp 3] rfl (by simp) ?_; simp only [bodyOf, Tryz.f45])
    (repeat refine stp ?_)
    (refine RC (hR) ?_)
    (repeat refine stp ?_)
    exact FE
  by_cases h1 : e > 18
  · rw [if_neg (by omega)]
    (refine den_walk mix Tryz.func45 rfl (by kernel_rfl) rfl [.tmp 2, .tmp 3] rfl (by simp) ?_; simp only [bodyOf, Tryz.f45])
    (repeat refine stp ?_)
    (refine RC (hR) ?_)
    (repeat refine stp ?_)
    exact FE
  have e1 : (if isRight m e ∧ 0 ≤ e ∧ e ≤ 18 ∧ -9223372036854775808 ≤ m * 10 ^ e.toNat ∧ m * 10 ^ e.toNat ≤ 9223372036854775807 then (m * 10 ^ e.toNat, true) else (0, false)) =
      if -9223372036854775808 ≤ m * 10 ^ e.toNat ∧ m * 10 ^ e.toNat ≤ 9223372036854775807 then (m * 10 ^ e.toNat, true) else (0, false) := by
    by_cases h2 : -9223372036854775808 ≤ m * 10 ^ e.toNat ∧ m * 10 ^ e.toNat ≤ 9223372036854775807
    · rw [if_pos h2, if_pos ⟨hr, by omega, by omega, h2⟩]
    · rw [if_neg h2, if_neg (fun k => h2 k.2.2.2)]
  rw [e1]
  clear e1
  obtain ⟨d, rfl⟩ : ∃ d : Nat, e = d := ⟨e.toNat, by omega⟩
  rw [Int.toNat_natCast]
  (refine den_walk mix Tryz.func45 rfl (by kernel_rfl) rfl [.tmp 2, .tmp 3] rfl (by simp) ?_; simp only [bodyOf, Tryz.f45])
  (repeat refine stp ?_)
  (refine RC (hR) ?_)
  (repeat refine stp ?_)
  refine Run_loop (fun q σ => ∃ (n : Int) (i : Nat), σ.t 4 = .int .i64 n ∧ σ.t 21 = .int .i64 d ∧ σ.t 22 = .int .i64 i ∧ I n ∧ i ≤ d ∧ n * 10 ^ (d - i) = m * 10 ^ d ∧ q = d - i) d ?_ ?_
  · exact ⟨m, 0, rd, rd, rd, im, Nat.zero_le _, rfl, rfl⟩
  rintro q σ ⟨n, i, h4, h21, h22, hn, hi, hp, rfl⟩
  have hn' := I_iff hn
  by_cases hlt : i < d
  · have ht := over_ten hn
    rw [← wr64, ← wr64] at ht
    by_cases hI : I (n * 10)
    · have hI' := I_iff hI
      have hk : IntKind.i64.wrap (Int.tdiv (IntKind.i64.wrap (n * 10)) 10) = n := ht.2 hI
      have hp2 : n * 10 * 10 ^ (d - (i + 1)) = m * 10 ^ d := by
        rw [← hp, show d - i = (d - (i + 1)) + 1 by omega, Int.pow_succ, Int.mul_assoc, Int.mul_comm 10]
      rw [IntWalk.i64_in _ hI'] at hk
      replace hp2 := Asd.mk hp2
      replace hp := Asd.mk hp
      (repeat refine stp ?_)
      exact ⟨d - (i + 1), by omega, n * 10, i + 1, rd, rd, rd, hI, hlt, hp2.out, rfl⟩
    · have hk : IntKind.i64.wrap (Int.tdiv (IntKind.i64.wrap (n * 10)) 10) ≠ n := fun k => hI (ht.1 k)
      have hno : ¬ I (m * 10 ^ d) := by
        rw [← hp, show d - i = (d - (i + 1)) + 1 by omega]
        exact not_I_mul hI _
      rw [if_neg (show ¬ (_ ∧ _) from hno)]
      clear hp hno ht
      (repeat refine stp ?_)
      exact FE
  · have hid : i = d := by omega
    subst hid
    rw [Nat.sub_self, Int.pow_zero, Int.mul_one] at hp
    rw [← hp, if_pos (show _ ∧ _ from hn)]
    clear hp
    (repeat refine stp ?_)
    exact FE
theorem digits_den (n : Int) (h : I n) : Den Tryz.prog 233 [.int .i64 n] [] (.str (ba (Lib.decDigits n.natAbs))) [] [] := by
  have h1 := itoa_den n h
  have h2 := trimP_den (ba (Lib.itoa n)) ⟨#[45]⟩
  rw [ba_data, itoa_trim] at h2
  (refine den_walk mix Tryz.func233 rfl (by kernel_rfl) rfl [.tmp 2] rfl (by simp) ?_; simp only [bodyOf, Tryz.f233])
  (repeat refine stp ?_)
  (refine RC (h1) ?_)
  (refine RC (h2) ?_)
  (repeat refine stp ?_)
  exact FE
theorem numtext_den (n : Int) (h : I n) : Den Tryz.prog 173 [.int .i64 n] [] (.str (ba (numL n))) [] [] := by
  have h1 := digits_den n h
  have hl := digits_len h
  have hz := ba_size (Lib.decDigits n.natAbs)
  unfold numL
  by_cases h0 : n < 0
  · rw [if_pos h0]
    have ha : (⟨#[194, 175]⟩ : ByteArray) ++ ba (Lib.decDigits n.natAbs) = ba (194 :: 175 :: Lib.decDigits n.natAbs) := ba_append [194, 175] _
    have hs : (⟨#[194, 175]⟩ : ByteArray).size = 2 := rfl
    rw [← ha]
    generalize ba (Lib.decDigits n.natAbs) = b at *
    clear ha
    (refine den_walk mix Tryz.func173 rfl (by kernel_rfl) rfl [.tmp 2] rfl (by simp) ?_; simp only [bodyOf, Tryz.f173])
    (repeat refine stp ?_)
    (refine RC (h1) ?_)
    (repeat refine stp ?_)
    exact FE
  · rw [if_neg h0]
    (refine den_walk mix Tryz.func173 rfl (by kernel_rfl) rfl [.tmp 2] rfl (by simp) ?_; simp only [bodyOf, Tryz.f173])
    (repeat refine stp ?_)
    (refine RC (h1) ?_)
    (repeat refine stp ?_)
    exact FE
theorem dtext_den (x : Sp.Dec) (h : wfD x) : Den Tryz.prog 104 [.agg (eD x)] [] (.str (ba (textL x.f0 x.f1))) [] [] := by
  have hR := right_den x h
  have h1 := numtext_den x.f0 h.1
  have h2 := numtext_den x.f1 h.2
  have l1 := numL_len h.1
  have l2 := numL_len h.2
  rw [← ba_size] at l1 l2
  unfold rightB at hR
  rw [rightD_eq] at hR
  unfold textL
  by_cases hr : isRight x.f0 x.f1
  case neg =>
    rw [decide_eq_false hr] at hR
    rw [if_neg hr]
    clear h1 h2
    (refine den_walk mix Tryz.func104 rfl (by kernel_rfl) rfl [.tmp 2] rfl (by simp) ?_; simp only [bodyOf, Tryz.f104])
    (repeat refine stp ?_)
    (refine RC (hR) ?_)
    (repeat refine stp ?_)
    exact FE
  rw [decide_eq_true hr] at hR
  rw [if_pos hr]
  by_cases h0 : x.f1 = 0
  · rw [if_pos h0]
    clear h2
    (refine den_walk mix Tryz.func104 rfl (by kernel_rfl) rfl [.tmp 2] rfl (by simp) ?_; simp only [bodyOf, Tryz.f104])
    (repeat refine stp ?_)
    (refine RC (hR) ?_)
    (repeat refine stp ?_)
    (refine RC (h1) ?_)
    (repeat refine stp ?_)
    exact FE
  · rw [if_neg h0]
    have e1 : ba (numL x.f0 ++ 69 :: numL x.f1) = ba (numL x.f0) ++ ⟨#[69]⟩ ++ ba (numL x.f1) := by
      rw [show (⟨#[69]⟩ : ByteArray) = ba [69] from rfl, ba_append, ba_append, List.append_assoc]; rfl
    have hs : (ba (numL x.f0) ++ (⟨#[69]⟩ : ByteArray)).size = (ba (numL x.f0)).size + 1 := by rw [ByteArray.size_append]; rfl
    have hs1 : (⟨#[69]⟩ : ByteArray).size = 1 := rfl
    rw [e1]
    generalize ba (numL x.f0) = a at *
    generalize ba (numL x.f1) = b at *
    clear e1
    (refine den_walk mix Tryz.func104 rfl (by kernel_rfl) rfl [.tmp 2] rfl (by simp) ?_; simp only [bodyOf, Tryz.f104])
    (repeat refine stp ?_)
    (refine RC (hR) ?_)
    (repeat refine stp ?_)
    (refine DC (h1) ?_)
    (repeat refine stp ?_)
    (refine DC (h2) ?_)
    (repeat refine stp ?_)
    exact FE
theorem dread_den (s : ByteArray) (hs : s.size ≤ 140737488355328) : Den Tryz.prog 315 [.str s] [] (.int .i64 (rd1 s.data.toList)) [] [] := by
  have hC := cutPf_den s ⟨#[194, 175]⟩
  unfold rd1 readArg
  have hp : (⟨#[194, 175]⟩ : ByteArray).data.toList = [194, 175] := rfl
  rw [hp] at hC
  cases hh : Lib.hasPrefix s.data.toList [194, 175] with
  | true =>
    rw [hh] at hC
    rw [if_pos rfl]
    have hle : (ba (Lib.trimPrefix s.data.toList [194, 175])).size ≤ s.size := by
      rw [ba_size, size_data]
      unfold Lib.trimPrefix
      repeat' split
      all_goals first | (rw [List.length_drop]; omega) | exact Nat.le_refl _
    have hA := atoi_den (⟨#[45]⟩ ++ ba (Lib.trimPrefix s.data.toList [194, 175])) (by rw [ByteArray.size_append]; show 1 + _ ≤ _; omega)
    have e1 : (⟨#[45]⟩ ++ ba (Lib.trimPrefix s.data.toList [194, 175]) : ByteArray).data.toList = 45 :: Lib.trimPrefix s.data.toList [194, 175] := by
      rw [show (⟨#[45]⟩ : ByteArray) = ba [45] from rfl, ba_append, ba_data]; rfl
    rw [e1] at hA
    have hs1 : (⟨#[45]⟩ : ByteArray).size = 1 := rfl
    generalize ba (Lib.trimPrefix s.data.toList [194, 175]) = r at *
    unfold atoiE at hA
    split at hA
    all_goals
      (refine den_walk mix Tryz.func315 rfl (by kernel_rfl) rfl [.tmp 2] rfl (by simp) ?_; simp only [bodyOf, Tryz.f315])
      (repeat refine stp ?_)
      (refine RC (hC) ?_)
      (repeat refine stp ?_)
      (refine RC (hA) ?_)
      (repeat refine stp ?_)
      exact FE
  | false =>
    rw [hh] at hC
    rw [if_neg (by decide)]
    have hA := atoi_den s (by omega)
    unfold atoiE at hA
    split at hA
    all_goals
      (refine den_walk mix Tryz.func315 rfl (by kernel_rfl) rfl [.tmp 2] rfl (by simp) ?_; simp only [bodyOf, Tryz.f315])
      (repeat refine stp ?_)
      (refine RC (hC) ?_)
      (repeat refine stp ?_)
      (refine RC (hA) ?_)
      (repeat refine stp ?_)
      exact FE
theorem dparse_den (s : ByteArray) (hs : s.size < 4294967281) : Den Tryz.prog 296 [.str s] [] (.tup [.agg [.int .i64 (parseD s.data.toList).1, .int .i64 (parseD s.data.toList).2.1], .bool (parseD s.data.toList).2.2]) [] [] := by
  have hC := cut_den s ⟨#[69]⟩ hs
  have hp : (⟨#[69]⟩ : ByteArray).data.toList = [69] := rfl
  rw [hp] at hC
  have hl := cut_le s.data.toList
  rw [← size_data] at hl
  have h1 := dread_den (ba (Lib.cut s.data.toList [69]).1) (by rw [ba_size]; omega)
  have h2 := dread_den (ba (Lib.cut s.data.toList [69]).2.1) (by rw [ba_size]; omega)
  rw [ba_data] at h1 h2
  have hT := dtext_den ⟨rd1 (Lib.cut s.data.toList [69]).1, rd1 (Lib.cut s.data.toList [69]).2.1⟩ ⟨atoiVal_I _, atoiVal_I _⟩
  simp only [eD] at hT
  unfold parseD
  by_cases h0 : s.data.toList = []
  · rw [if_pos h0]
    have he : s = ⟨#[]⟩ := data_inj (by rw [h0])
    subst he
    clear hT
    generalize rd1 (Lib.cut (⟨#[]⟩ : ByteArray).data.toList [69]).1 = a at *
    generalize rd1 (Lib.cut (⟨#[]⟩ : ByteArray).data.toList [69]).2.1 = b at *
    generalize ba (Lib.cut (⟨#[]⟩ : ByteArray).data.toList [69]).1 = p at *
    generalize ba (Lib.cut (⟨#[]⟩ : ByteArray).data.toList [69]).2.1 = q at *
    (refine den_walk mix Tryz.func296 rfl (by kernel_rfl) rfl [.cell 2 70, .tmp 3] rfl (by simp) ?_; simp only [bodyOf, Tryz.f296])
    (repeat refine stp ?_)
    (refine RC (hC) ?_)
    (repeat refine stp ?_)
    (refine RC (h1) ?_)
    (repeat refine stp ?_)
    (refine RC (h2) ?_)
    (repeat refine stp ?_)
    exact FE
  · rw [if_neg h0]
    have hne : (s.toList == (⟨#[]⟩ : ByteArray).toList) = false := by
      rw [toList_eq, toList_eq]
      exact beq_eq_false_iff_ne.2 h0
    have hcmp : ((ba (textL (rd1 (Lib.cut s.data.toList [69]).1) (rd1 (Lib.cut s.data.toList [69]).2.1))).toList == s.toList) = decide (textL (rd1 (Lib.cut s.data.toList [69]).1) (rd1 (Lib.cut s.data.toList [69]).2.1) = s.data.toList) := by
      rw [ba_toList, toList_eq, Bool.eq_iff_iff, beq_iff_eq, decide_eq_true_eq]
    generalize rd1 (Lib.cut s.data.toList [69]).1 = a at *
    generalize rd1 (Lib.cut s.data.toList [69]).2.1 = b at *
    generalize ba (Lib.cut s.data.toList [69]).1 = p at *
    generalize ba (Lib.cut s.data.toList [69]).2.1 = q at *
    by_cases ht : textL a b = s.data.toList
    · rw [if_pos ht]
      rw [decide_eq_true ht] at hcmp
      generalize ba (textL a b) = t at *
      clear ht h0
      (refine den_walk mix Tryz.func296 rfl (by kernel_rfl) rfl [.cell 2 70, .tmp 3] rfl (by simp) ?_; simp only [bodyOf, Tryz.f296])
      (repeat refine stp ?_)
      (refine RC (hC) ?_)
      (repeat refine stp ?_)
      (refine RC (h1) ?_)
      (repeat refine stp ?_)
      (refine RC (h2) ?_)
      (repeat refine stp ?_)
      (refine RC (hT) ?_)
      (repeat refine stp ?_)
      exact FE
    · rw [if_neg ht]
      rw [decide_eq_false ht] at hcmp
      generalize ba (textL a b) = t at *
      clear ht h0
      (refine den_walk mix Tryz.func296 rfl (by kernel_rfl) rfl [.cell 2 70, .tmp 3] rfl (by simp) ?_; simp only [bodyOf, Tryz.f296])
      (repeat refine stp ?_)
      (refine RC (hC) ?_)
      (repeat refine stp ?_)
      (refine RC (h1) ?_)
      (repeat refine stp ?_)
      (refine RC (h2) ?_)
      (repeat refine stp ?_)
      (refine RC (hT) ?_)
      (repeat refine stp ?_)
      exact FE
end Go.Proofs.YtpkjiplgpgbheaaGreatDoor.V
