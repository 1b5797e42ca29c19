/- What the laws lean on, part 7: texts of this claim, merged and cut to what is used. -/
import Derived.Test.YtfdeheodjkpkkaaGreatDoorP18HkU
import Derived.Test.YtfdeheodjkpkkaaGreatDoorP186
import Derived.Test.YtfdeheodjkpkkaaGreatDoorP181
set_option linter.unusedVariables false
set_option linter.unusedSimpArgs false
set_option linter.unusedSectionVars false
namespace Go.Proofs.YtfdeheodjkpkkaaGreatDoor.V
open Go Go.RowKit Go.Proofs Go.Proofs.Ev Go.Proofs.YtfdeheodjkpkkaaGreatDoor Go.Proofs.YtfdeheodjkpkkaaGreatDoor.Sp Go.Proofs.YtfdeheodjkpkkaaGreatDoor.Ba Go.Proofs.YtfdeheodjkpkkaaGreatDoorW.PrintWords
set_option maxHeartbeats 4000000
set_option maxRecDepth 100000
set_option linter.unusedSimpArgs false
set_option linter.unusedVariables false
set_option linter.unusedSectionVars false
theorem rel_strs {c : Cx} {l : List ByteArray} {u : Value} (h : RelV c (.ro (l.map eS)) u) (hn : l.length ≤ 9223372036854775807) : ∃ A cap, u = .slice A l.length cap ∧ Kd.string.C c.w A l.length l := by
  generalize hv : PV.ro (l.map eS) = v at h
  cases h with
  | ro rows A cap sz f h1 hA hz hb hf hc h =>
    injection hv with hv
    subst hv
    refine ⟨A, cap, by rw [List.length_map], rfl, hn, fun h0 => ?_⟩
    have hl0 : (l.map eS)[0]? = some (eS (l[0]'h0)) := by rw [List.getElem?_map, List.getElem?_eq_getElem h0]; rfl
    have hsz := hz 0 _ hl0
    have hsz1 : sz = 1 := by rw [← hsz]; rfl
    subst hsz1
    cases A with
    | none =>
      have := (hA rfl).1
      have h2 := congrArg List.length this
      simp at h2
      subst h2
      simp at h0
    | some ad =>
      obtain ⟨b1, b2, b3⟩ := hb ad rfl (by intro h; rw [h] at hl0; simp at hl0)
      refine ⟨ad, rfl, fun j p hj => ?_⟩
      have hj' : (l.map eS)[j]? = some (eS p) := by rw [List.getElem?_map, hj]; rfl
      have hc1 := hc ad j _ 0 _ rfl hj' rfl
      have hr1 := h j _ 0 _ hj' rfl
      generalize f j 0 = q at hc1 hr1
      cases hr1
      refine ⟨[.string p], rfl, rfl, fun i u hu => ?_⟩
      cases i with
      | zero =>
        cases hu
        have e1 : ad.add (j * Kd.string.sz + 0) = ⟨ad.block, ad.off + (j * 1 + 0), none⟩ := by
          cases ad with
          | mk b o s =>
            simp only at b1
            subst b1
            show (⟨b, o, none⟩ : Addr).add (j * 1 + 0) = _
            unfold Addr.add
            split <;> simp_all
        rw [e1]
        exact hc1
      | succ i => simp at hu
  | _ => cases hv
theorem unlike_den (l : List ByteArray) (hl : l.length ≤ 1099511627776) (hs : ∀ s ∈ l, s.size ≤ 1099511627776) : Den Tryz.prog 102 [.ro (l.map eS)] [] (.bool (unlike l)) [] [] := by
  refine den_of_any (v := .bool (unlike l)) rfl (fun c us hT hlen hargs => ?_)
  match us, hlen with
  | [u], _ =>
    obtain ⟨A, cap, rfl, hC⟩ := rel_strs (hargs 0 _ _ rfl rfl) (by omega)
    exact All.unlike_any A cap l c.w hC hl hs
theorem may_den (s : ByteArray) (hs : s.size ≤ 1099511627776) : Den Tryz.prog 234 [.str s] [] (.bool (mayB s)) [] [] := by
  have hR := right_nm s hs
  unfold mayB
  generalize rightNm s = b at *
  cases h : seq s e0 with
  | true =>
    (refine den_walk mix Tryz.func234 rfl (by kernel_rfl) rfl [.tmp 2] rfl (by simp) ?_; simp only [bodyOf, Tryz.f234])
    (repeat refine stp ?_)
    exact FE
  | false =>
    (refine den_walk mix Tryz.func234 rfl (by kernel_rfl) rfl [.tmp 2] rfl (by simp) ?_; simp only [bodyOf, Tryz.f234])
    (repeat refine stp ?_)
    (refine RC (hR) ?_)
    (repeat refine stp ?_)
    exact FE
theorem nmay_den (s : ByteArray) (hs : s.size ≤ 1099511627776) : Den Tryz.prog 233 [.str s] [] (.bool (!mayB s)) [] [] := by
  (refine den_walk mix Tryz.func233 rfl (by kernel_rfl) rfl [.tmp 2] rfl (by simp) ?_; simp only [bodyOf, Tryz.f233])
  (repeat refine stp ?_)
  (refine RC (may_den s hs) ?_)
  (repeat refine stp ?_)
  exact FE
end Go.Proofs.YtfdeheodjkpkkaaGreatDoor.V
namespace Go.Proofs.YtfdeheodjkpkkaaGreatDoor.V
open Go Go.RowKit Go.Proofs Go.Proofs.Ev Go.Proofs.YtfdeheodjkpkkaaGreatDoor Go.Proofs.YtfdeheodjkpkkaaGreatDoor.Sp Go.Proofs.YtfdeheodjkpkkaaGreatDoor.Ba Go.Proofs.YtfdeheodjkpkkaaGreatDoorW.PrintWords
set_option maxHeartbeats 4000000
set_option maxRecDepth 100000
set_option linter.unusedSimpArgs false
set_option linter.unusedVariables false
set_option linter.unusedSectionVars false
@[go_sem] def eH (h : Sp.Hd) : List PV := [.str h.result, .str h.left, .str h.name, .str h.right, .str h.f, .str h.g, .ro (h.locals.map eS)]
/-- The texts are no longer than a text may be. -/
structure wfH (h : Sp.Hd) : Prop where
  n : h.locals.length ≤ 1099511627000
  s : ∀ x ∈ allH h, x.size ≤ 1099511627776
theorem right_hdr (h : Sp.Hd) (hw : wfH h) : Den Tryz.prog 200 [.agg (eH h)] [] (.bool (rightH h)) [] [] := by
  have hln := hw.n
  have hla : (allH h).length = h.locals.length + 6 := by simp [allH]
  have hall := all_eS h.locals
  have hCF := containsFunc_str (allH h) (by omega) _ [] rfl (by kernel_rfl) (fun s => !mayB s) (fun x hx => nmay_den x (hw.s x hx))
  have hCt := contains_str h.locals (by omega) e0
  have hU := unlike_den (allH h) (by omega) hw.s
  have hl := hw.s h.left (by simp [allH])
  have hf := hw.s h.f (by simp [allH])
  have hcat : h.left.size + h.f.size ≤ 9223372036854775807 := by omega
  have htk := take_allm eS h.locals
  have h6 : 6 + h.locals.length = h.locals.length + 6 := Nat.add_comm _ _
  have hlen16 : (h.locals.length + 6) * 16 ≤ 140737488355328 := by omega
  unfold rightH
  have hE : [PV.str h.result] :: [PV.str h.left] :: [PV.str h.name] :: [PV.str h.right] :: [PV.str h.f] :: [PV.str h.g] :: h.locals.map eS = (allH h).map eS := by simp [allH, eS]
  have hN : 6 + h.locals.length = (allH h).length := by omega
  have htR := take_allm eS (allH h)
  have hRl : (allH h).length ≤ ((allH h).map eS).length := by simp
  have hsR := sf_eS (allH h)
  clear hw hl hf hla h6
  cases h1 : seq h.name e0 with
  | true =>
    clear hE hN htR hRl hsR
    (refine den_walk mix Tryz.func200 rfl (by kernel_rfl) rfl [.tmp 2] rfl (by simp) ?_; simp only [bodyOf, Tryz.f200])
    (repeat refine stp ?_)
    exact FE
  | false =>
    generalize hRR : (allH h).map eS = R at *
    generalize (allH h).length = N at *
    generalize hb2 : (allH h).any (fun s => !mayB s) = b2 at *
    generalize hbu : unlike (allH h) = bu at *
    clear hRR hb2 hbu
    (refine den_walk mix Tryz.func200 rfl (by kernel_rfl) rfl [.tmp 2] rfl (by simp) ?_; simp only [bodyOf, Tryz.f200])
    (repeat refine stp ?_)
    refine Run_gen (fun τ => ∃ v1 v, τ.t 1 = .ptr (.loc 1 0) v1 0 0 ∧ τ.m (.loc 1 0) = ⟨v1, some (.rows false 112 7 [[.str h.result, .str h.left, .str h.name, .str h.right, .str h.f, .str h.g, .ro (h.locals.map eS)]])⟩ ∧ τ.t 3 = .own (.loc 17 0) v N ∧ τ.t 26 = .own (.loc 17 0) v N ∧ τ.t 27 = .fn 233 [] ∧ τ.t 25 = .bool false ∧ τ.m (.loc 17 0) = ⟨v, some (.rows true 9 1 R)⟩) ⟨_, _, rd, rdm, rd, rd, rd, rd, rdm⟩ ?_
    rintro τ ⟨v1, v, g1, gm1, g3, g26, g27, g25, gm⟩
    refine RZ (.loc 17 0) ?_
    (refine RC (hCF) ?_)
    clear hE hN
    cases b2 with
    | true =>
      (repeat refine stp ?_)
      exact FE
    | false =>
      (repeat refine stp ?_)
      (refine RC (hCt) ?_)
      cases h3 : h.locals.any (fun s => seq e0 s) with
      | true =>
        (repeat refine stp ?_)
        exact FE
      | false =>
        (repeat refine stp ?_)
        cases h4 : seq h.right e0 <;> cases h5 : seq (h.left ++ h.f) e0 <;> cases h7 : seq h.f e0 <;> cases h8 : seq h.g e0
        all_goals (repeat refine stp ?_)
        all_goals first | exact FE | ((refine RC (hU) ?_); (repeat refine stp ?_); exact FE)
end Go.Proofs.YtfdeheodjkpkkaaGreatDoor.V
namespace Go.Proofs.YtfdeheodjkpkkaaGreatDoor.V
open Go Go.RowKit Go.Proofs Go.Proofs.Ev Go.Proofs.YtfdeheodjkpkkaaGreatDoor Go.Proofs.YtfdeheodjkpkkaaGreatDoor.Sp Go.Proofs.YtfdeheodjkpkkaaGreatDoor.Ba Go.Proofs.YtfdeheodjkpkkaaGreatDoorW.PrintWords
set_option maxHeartbeats 4000000
set_option maxRecDepth 100000
set_option linter.unusedSimpArgs false
set_option linter.unusedVariables false
set_option linter.unusedSectionVars false
/-- Where the first sign stands for which it holds. -/
def runeIdx (p : Int → Bool) (s : ByteArray) : Nat → Nat → Int
  | 0, _ => -1
  | f + 1, i => if i < s.size then (if p (Utf8.decode s i).1 = true then (i : Int) else runeIdx p s f (i + (Utf8.decode s i).2)) else -1
theorem runeIdx_any (p : Int → Bool) (s : ByteArray) : ∀ (f i : Nat), decide (runeIdx p s f i < 0) = !anyRune p s f i
  | 0, _ => rfl
  | f + 1, i => by
    unfold runeIdx anyRune
    split
    · split
      · simp
      · exact runeIdx_any p s f _
    · rfl
theorem runeIdx_end (p : Int → Bool) (s : ByteArray) (f i : Nat) (h : s.size ≤ i) : runeIdx p s f i = -1 := by
  cases f with
  | zero => rfl
  | succ f => rw [runeIdx, if_neg (by omega)]
theorem idxRune (s : ByteArray) (hs : s.size ≤ 1099511627776) (g : Nat) (hok : okF Tryz.prog g = true) (p : Int → Bool) (hp : ∀ c : Nat, Den Tryz.prog g [.int .i32 c] [] (.bool (p c)) [] []) :
    Den Tryz.prog 199 [.str s, .fn g [], .bool true] [] (.int .i64 (runeIdx p s (s.size + 1) 0)) [] [] := by
  (refine den_walk mix Tryz.func199 rfl (by kernel_rfl) rfl [.tmp 6] rfl (by simp) ?_; simp only [bodyOf, Tryz.f199])
  (repeat refine stp ?_)
  refine Run_loop (fun m σ => ∃ (i v : Nat), σ.t 1 = .fn g [] ∧ σ.t 2 = .bool true ∧ σ.t 10 = .it (.loc 10 0) v ∧ σ.m (.loc 10 0) = ⟨v, some (.iter s i)⟩ ∧ runeIdx p s m i = runeIdx p s (s.size + 1) 0 ∧ s.size < m + i) (s.size + 1) ?_ ?_
  · exact ⟨0, _, rd, rd, rd, rdm, rfl, by omega⟩
  rintro m σ ⟨i, v, h1, h2, h10, hm, hr, hf⟩
  generalize hRR : runeIdx p s (s.size + 1) 0 = R at *
  clear hRR
  by_cases hi : i < s.size
  · obtain ⟨f, rfl⟩ : ∃ f, m = f + 1 := ⟨m - 1, by omega⟩
    rw [runeIdx, if_pos hi] at hr
    have hd := dec_pos s i
    have hP := hp (Utf8.decode s i).1
    generalize hDec : Utf8.decode s i = D at *
    cases hb : p D.1 with
    | true =>
      rw [hb] at hP
      rw [if_pos hb] at hr
      rw [← hr]
      clear hr hb
      (repeat refine stp ?_)
      (refine RC (hP) ?_)
      (repeat refine stp ?_)
      exact FE
    | false =>
      rw [hb] at hP
      rw [if_neg (by simp [hb])] at hr
      clear hb
      replace hr := Asd.mk hr
      (repeat refine stp ?_)
      (refine RC (hP) ?_)
      (repeat refine stp ?_)
      exact ⟨f, by omega, _, _, rd, rd, rd, rdm, hr.out, by omega⟩
  · rw [runeIdx_end p s m i (by omega)] at hr
    rw [← hr]
    clear hr
    (repeat refine stp ?_)
    exact FE
theorem idxRune2 (s : ByteArray) (hs : s.size ≤ 1099511627776) (g : Nat) (hok : okF Tryz.prog g = true) (p : Int → Bool) (hp : ∀ c : Nat, Den Tryz.prog g [.int .i32 c] [] (.bool (p c)) [] []) :
    Den Tryz.prog 153 [.str s, .fn g []] [] (.int .i64 (runeIdx p s (s.size + 1) 0)) [] [] := by
  have hI := idxRune s hs g hok p hp
  (refine den_walk mix Tryz.func153 rfl (by kernel_rfl) rfl [.tmp 4] rfl (by simp) ?_; simp only [bodyOf, Tryz.f153])
  (repeat refine stp ?_)
  (refine RC (hI) ?_)
  (repeat refine stp ?_)
  exact FE
theorem valid_den (s : ByteArray) (hs : s.size ≤ 1099511627776) : Den Tryz.prog 152 [.str s] [] (.bool (Lib.validD s.data.toList)) [] [] := by
  have hV : Den Tryz.prog 198 [.str s] [] (.bool (Lib.validD s.data.toList)) [] [] :=
    den_of_calls (us := [.string s]) rfl rfl (fun w hT => Tryz.utf8_ValidString s w (by omega) (G.Tabs.utf8 hT))
  (refine den_walk mix Tryz.func152 rfl (by kernel_rfl) rfl [.tmp 2] rfl (by simp) ?_; simp only [bodyOf, Tryz.f152])
  (repeat refine stp ?_)
  (refine RC (hV) ?_)
  (repeat refine stp ?_)
  exact FE
theorem line_den (s : ByteArray) (hs : s.size ≤ 1099511627776) : Den Tryz.prog 98 [.str s] [] (.bool (lineB s)) [] [] := by
  have h1 := valid_den s hs
  have h2 := runes_den s hs
  have h3 := idxRune2 s hs _ (by kernel_rfl) oddB (fun c => odd_den c)
  have h4 := runeIdx_any oddB s (s.size + 1) 0
  unfold lineB
  rw [← h4]
  generalize runeIdx oddB s (s.size + 1) 0 = x at *
  generalize runes s = n at *
  generalize Lib.validD s.data.toList = b at *
  clear h4
  cases b with
  | false =>
    (refine den_walk mix Tryz.func98 rfl (by kernel_rfl) rfl [.tmp 2] rfl (by simp) ?_; simp only [bodyOf, Tryz.f98])
    (repeat refine stp ?_)
    (refine RC (h1) ?_)
    (repeat refine stp ?_)
    exact FE
  | true =>
    cases hn : decide (n ≤ 1000) with
    | false =>
      (refine den_walk mix Tryz.func98 rfl (by kernel_rfl) rfl [.tmp 2] rfl (by simp) ?_; simp only [bodyOf, Tryz.f98])
      (repeat refine stp ?_)
      (refine RC (h1) ?_)
      (repeat refine stp ?_)
      (refine RC (h2) ?_)
      (repeat refine stp ?_)
      exact FE
    | true =>
      (refine den_walk mix Tryz.func98 rfl (by kernel_rfl) rfl [.tmp 2] rfl (by simp) ?_; simp only [bodyOf, Tryz.f98])
      (repeat refine stp ?_)
      (refine RC (h1) ?_)
      (repeat refine stp ?_)
      (refine RC (h2) ?_)
      (repeat refine stp ?_)
      (refine RC (h3) ?_)
      (repeat refine stp ?_)
      exact FE
theorem nline_den (s : ByteArray) (hs : s.size ≤ 1099511627776) : Den Tryz.prog 97 [.str s] [] (.bool (!lineB s)) [] [] := by
  have h := line_den s hs
  (refine den_walk mix Tryz.func97 rfl (by kernel_rfl) rfl [.tmp 2] rfl (by simp) ?_; simp only [bodyOf, Tryz.f97])
  (repeat refine stp ?_)
  (refine RC (h) ?_)
  (repeat refine stp ?_)
  exact FE
end Go.Proofs.YtfdeheodjkpkkaaGreatDoor.V
namespace Go.Proofs.YtfdeheodjkpkkaaGreatDoor.V
open Go Go.RowKit Go.Proofs Go.Proofs.Ev Go.Proofs.YtfdeheodjkpkkaaGreatDoor Go.Proofs.YtfdeheodjkpkkaaGreatDoor.Sp Go.Proofs.YtfdeheodjkpkkaaGreatDoor.Ba Go.Proofs.YtfdeheodjkpkkaaGreatDoorW.PrintWords
set_option maxHeartbeats 4000000
set_option maxRecDepth 100000
set_option linter.unusedSimpArgs false
set_option linter.unusedVariables false
set_option linter.unusedSectionVars false
theorem labels_den (l : List ByteArray) (hl : l.length ≤ 1099511627776) (hs : ∀ s ∈ l, s.size ≤ 1099511627776) : Den Tryz.prog 101 [.ro (l.map eS)] [] (.ro ((labelsB true l).map eS)) [] [] := by
  (refine den_walk mix Tryz.func101 rfl (by kernel_rfl) rfl [.tmp 2] rfl (by simp) ?_; simp only [bodyOf, Tryz.f101])
  (repeat refine stp ?_)
  refine Run_loop (fun m σ => ∃ (k v : Nat) (acc : List ByteArray), σ.t 7 = .ro (l.map eS) ∧ σ.t 8 = .int .i64 l.length ∧ σ.t 9 = .int .i64 k ∧ σ.t 2 = .own (.loc 2 0) v acc.length ∧ σ.m (.loc 2 0) = ⟨v, some (.rows true 9 1 (acc.map eS))⟩ ∧ m = l.length - k ∧ k ≤ l.length ∧ acc ++ labelsB (decide (k = 0)) (l.drop k) = labelsB true l ∧ acc.length ≤ k) l.length ?_ ?_
  · exact ⟨0, _, [], rd, rd, rd, rd, rdm, rfl, by omega, rfl, Nat.le_refl _⟩
  rintro m σ ⟨k, v, acc, h7, h8, h9, h2, hm, rfl, hk, hr, hal⟩
  generalize hRR : labelsB true l = R at *
  clear hRR
  have htk := take_allm eS acc
  by_cases hk1 : k < l.length
  · obtain ⟨s, hx⟩ : ∃ s, l[k]? = some s := ⟨_, List.getElem?_eq_getElem hk1⟩
    have hss := hs s (List.mem_of_getElem? hx)
    have hT := take_nm s hss
    have hle := takeN_le s
    have hP := hasP_den (takeN s).2 tColon (by omega) (by decide)
    rw [drop_get hx, labelsB] at hr
    have hd1 : decide (k + 1 = 0) = false := by simp
    generalize hTk : takeN s = T at *
    clear hTk hle hss
    by_cases hk0 : k = 0
    · subst hk0
      simp only [decide_true, Bool.true_eq_false, false_and, if_false, List.nil_append] at hr
      replace hr := Asd.mk hr
      (repeat refine stp ?_)
      (refine RC (hT) ?_)
      (repeat refine stp ?_)
      exact ⟨_, by omega, 1, v, acc, rd, rd, rd, rd, rdm, rfl, by omega, hr.out, by omega⟩
    · have hkd : decide (k = 0) = false := decide_eq_false hk0
      have hk2 : 0 < k := by omega
      rw [hkd] at hr
      cases h1 : seq T.1 e0 with
      | true =>
        rw [h1] at hr
        simp only [Bool.true_eq_false, false_and, and_false, if_false, List.nil_append] at hr
        replace hr := Asd.mk hr
        clear hkd hk0
        (repeat refine stp ?_)
        (refine RC (hT) ?_)
        (repeat refine stp ?_)
        exact ⟨_, by omega, k + 1, v, acc, rd, rd, rd, rd, rdm, rfl, by omega, (by rw [hd1]; exact hr.out), by omega⟩
      | false =>
        cases h3 : hasP T.2 tColon with
        | false =>
          rw [h1, h3] at hr
          rw [h3] at hP
          simp only [Bool.false_eq_true, and_false, if_false, List.nil_append] at hr
          replace hr := Asd.mk hr
          clear hkd hk0 h3
          (repeat refine stp ?_)
          (refine RC (hT) ?_)
          (repeat refine stp ?_)
          (refine RC (hP) ?_)
          (repeat refine stp ?_)
          exact ⟨_, by omega, k + 1, v, acc, rd, rd, rd, rd, rdm, rfl, by omega, (by rw [hd1]; exact hr.out), by omega⟩
        | true =>
          rw [h1, h3] at hr
          rw [h3] at hP
          simp only [and_self, if_true] at hr
          replace hr := Asd.mk hr
          clear hkd hk0 h3
          (repeat refine stp ?_)
          (refine RC (hT) ?_)
          (repeat refine stp ?_)
          (refine RC (hP) ?_)
          (repeat refine stp ?_)
          refine ⟨_, ?_, k + 1, v + 1, acc ++ [T.1], rd, rd, rd, ?_, ?_, rfl, by omega, ?_, ?_⟩
          · omega
          · rw [List.length_append]; exact rd
          · rw [List.map_append]; exact rdm
          · rw [hd1, ← hr.out, List.append_assoc]
          · rw [List.length_append]; simp; omega
  · have hke : k = l.length := by omega
    subst hke
    rw [List.drop_length, labelsB, List.append_nil] at hr
    rw [← hr]
    clear hr hk1 hk
    (repeat refine stp ?_)
    exact FZ (.loc 2 0)
end Go.Proofs.YtfdeheodjkpkkaaGreatDoor.V
namespace Go.Proofs.YtfdeheodjkpkkaaGreatDoor.V
open Go Go.RowKit Go.Proofs Go.Proofs.Ev Go.Proofs.YtfdeheodjkpkkaaGreatDoor Go.Proofs.YtfdeheodjkpkkaaGreatDoor.Sp Go.Proofs.YtfdeheodjkpkkaaGreatDoor.Ba Go.Proofs.YtfdeheodjkpkkaaGreatDoorW.PrintWords
set_option maxHeartbeats 4000000
set_option maxRecDepth 100000
set_option linter.unusedSimpArgs false
set_option linter.unusedVariables false
set_option linter.unusedSectionVars false
/-- The header's block. -/
@[go_sem] def hdC (h : Sp.Hd) (x : PV) : Cont := .rows false 112 7 [[.str h.result, .str h.left, .str h.name, .str h.right, .str h.f, .str h.g, x]]
theorem oper_den (l : ByteArray) (h : Sp.Hd) (hs : l.size ≤ 1099511627776) : Den Tryz.prog 158 [.ptr (.ext 0) 0 0 0, .ptr (.ext 1) 0 0 0] [prC l, hdC h .nils] (.tup []) [] [prC (operB l h).2, hdC (operB l h).1 .nils] := by
  have w1 := word_den l hs
  have l1 := takeN_le l
  unfold operB
  simp only
  generalize takeN l = T1 at *
  have s1 := skip_den T1.2 tGap
  have c1 := cutP_le T1.2 tGap
  generalize cutP T1.2 tGap = C1 at *
  have w2 := word_den C1.1 (by omega)
  have l2 := takeN_le C1.1
  generalize takeN C1.1 = T2 at *
  have s2 := skip_den T2.2 tGap
  have c2 := cutP_le T2.2 tGap
  generalize cutP T2.2 tGap = C2 at *
  have w3 := word_den C2.1 (by omega)
  have l3 := takeN_le C2.1
  generalize takeN C2.1 = T3 at *
  cases hb : C2.2 with
  | true =>
    have s3 := skip_den T3.2 tEnd
    simp only [if_true]
    generalize cutP T3.2 tEnd = C3 at *
    clear l1 c1 l2 c2 l3
    (refine den_walk mix Tryz.func158 rfl (by kernel_rfl) rfl [] rfl (by simp) ?_; simp only [bodyOf, Tryz.f158])
    (repeat refine stp ?_)
    (refine RP (.ext 0) (w1) ?_)
    (repeat refine stp ?_)
    (refine RP (.ext 0) (s1) ?_)
    (repeat refine stp ?_)
    (refine RP (.ext 0) (w2) ?_)
    (repeat refine stp ?_)
    (refine RP (.ext 0) (s2) ?_)
    (repeat refine stp ?_)
    (refine RP (.ext 0) (w3) ?_)
    (repeat refine stp ?_)
    (refine RP (.ext 0) (s3) ?_)
    (repeat refine stp ?_)
    exact FP2
  | false =>
    have s3 := skip_den C2.1 tEnd
    simp only [Bool.false_eq_true, if_false]
    generalize cutP C2.1 tEnd = C3 at *
    clear l1 c1 l2 c2 l3
    (refine den_walk mix Tryz.func158 rfl (by kernel_rfl) rfl [] rfl (by simp) ?_; simp only [bodyOf, Tryz.f158])
    (repeat refine stp ?_)
    (refine RP (.ext 0) (w1) ?_)
    (repeat refine stp ?_)
    (refine RP (.ext 0) (s1) ?_)
    (repeat refine stp ?_)
    (refine RP (.ext 0) (w2) ?_)
    (repeat refine stp ?_)
    (refine RP (.ext 0) (s2) ?_)
    (repeat refine stp ?_)
    (refine RP (.ext 0) (s3) ?_)
    (repeat refine stp ?_)
    exact FP2
end Go.Proofs.YtfdeheodjkpkkaaGreatDoor.V
