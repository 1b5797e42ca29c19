/- What the laws lean on, part 9: texts of this claim, merged and cut to what is used. -/
import Derived.Test.YtfdeheodjkpkkaaGreatDoorP188
import Derived.Test.YtfdeheodjkpkkaaGreatDoorP182
set_option linter.unusedVariables false
set_option linter.unusedSimpArgs false
set_option linter.unusedSectionVars false
namespace Go.Proofs.YtfdeheodjkpkkaaGreatDoor.V
open Go Go.RowKit Go.Proofs Go.Proofs.Ev Go.Proofs.YtfdeheodjkpkkaaGreatDoor Go.Proofs.YtfdeheodjkpkkaaGreatDoor.Sp Go.Proofs.YtfdeheodjkpkkaaGreatDoor.Ba Go.Proofs.YtfdeheodjkpkkaaGreatDoor.G
set_option maxHeartbeats 4000000
set_option maxRecDepth 100000
set_option linter.unusedSimpArgs false
set_option linter.unusedVariables false
set_option linter.unusedSectionVars false
attribute [go_sem] len_eI len_eS len_eD len_eN len_eO sf_eI sf_eS sf_eD sf_eN sf_eO take_allm
@[go_sem] theorem toNat_add1 (k : Nat) : ((k : Int) + 1).toNat = k + 1 := by omega
theorem opvI : Opv Tryz.prog eI 3 I := (Opv.int Tryz.underlying3 (by kernel_rfl)).mono (fun _ h => Ba.I_of_wf h)
theorem opvS : Opv Tryz.prog eS 9 (fun s => s.size ≤ 140737488351232) := Opv.str Tryz.underlying9 (by kernel_rfl)
theorem opvD : Opv Tryz.prog eD 55 wfD :=
  (Opv.struct Tryz.underlying55 (fun x : Sp.Dec => (x.f0, x.f1)) (fun p => ⟨p.1, p.2⟩) (fun _ => rfl) (fun _ => rfl) (OpvF.pair (m := 1) (by kernel_rfl) rfl opvI (OpvF.one rfl opvI)) (by kernel_rfl)).mono (fun y h => h)
structure qN (n : Sp.Nd) : Prop where
  k : I n.f0
  s : ∀ x ∈ n.f1, I x
  i : ∀ x ∈ n.f2, I x
  d : ∀ x ∈ n.f3, wfD x
  ls : n.f1.length ≤ 140737488351232
  li : n.f2.length ≤ 140737488351232
  ld : n.f3.length ≤ 140737488351232
theorem opvN : Opv Tryz.prog eN 37 qN :=
  (Opv.struct Tryz.underlying37 (fun x : Sp.Nd => (x.f0, x.f1, x.f2, x.f3)) (fun p => ⟨p.1, p.2.1, p.2.2.1, p.2.2.2⟩) (fun _ => rfl) (fun _ => rfl)
    (OpvF.pair (m := 1) (by kernel_rfl) rfl opvI (OpvF.pair (m := 1) (by kernel_rfl) rfl (Opv.slice Tryz.underlying34 opvI (by decide +kernel) (by kernel_rfl) (B := 1) (by decide) (by decide +kernel)) (OpvF.pair (m := 1) (by kernel_rfl) rfl (Opv.slice Tryz.underlying34 opvI (by decide +kernel) (by kernel_rfl) (B := 1) (by decide) (by decide +kernel)) (OpvF.one rfl (Opv.slice Tryz.underlying35 opvD (by decide +kernel) (by kernel_rfl) (B := 1) (by decide) (by decide +kernel)))))) (by kernel_rfl)).mono
    (fun y h => ⟨h.1, h.2.1.1, h.2.2.1.1, h.2.2.2.1, h.2.1.2, h.2.2.1.2, h.2.2.2.2⟩)
structure qO (o : Sp.Ob) : Prop where
  k : I o.f0
  n : o.f1.size ≤ 140737488351232
  la : o.f2.length ≤ 140737488351232
  a : ∀ x ∈ o.f2, qN x
  ll : o.f3.length ≤ 140737488351232
  l : ∀ x ∈ o.f3, x.size ≤ 140737488351232
theorem opvO : Opv Tryz.prog eO 29 qO :=
  (Opv.struct Tryz.underlying29 (fun x : Sp.Ob => (x.f0, x.f1, x.f2, x.f3)) (fun p => ⟨p.1, p.2.1, p.2.2.1, p.2.2.2⟩) (fun _ => rfl) (fun _ => rfl)
    (OpvF.pair (m := 1) (by kernel_rfl) rfl opvI (OpvF.pair (m := 1) (by kernel_rfl) rfl opvS (OpvF.pair (m := 1) (by kernel_rfl) rfl (Opv.slice Tryz.underlying26 opvN (by decide +kernel) (by kernel_rfl) (B := 1) (by decide) (by decide +kernel)) (OpvF.one rfl (Opv.slice Tryz.underlying27 opvS (by decide +kernel) (by kernel_rfl) (B := 1) (by decide) (by decide +kernel)))))) (by kernel_rfl)).mono
    (fun y h => ⟨h.1, h.2.1, h.2.2.1.2, h.2.2.1.1, h.2.2.2.2, h.2.2.2.1⟩)
/-- The tables stay where the memory is as it was. -/
theorem tabs_kept {w : World} (h : Tabs w) (w' : World) (hk : ∀ k, k < w.heap.size → w'.heap[k]? = w.heap[k]?) : Tbl.T Tryz.prog w' := by
  let v : World := { w' with os := w.os, tape := w.tape, output := w.output }
  have hs : w.heap.size ≤ w'.heap.size := by
    refine Nat.le_of_not_lt (fun hlt => ?_)
    have := hk _ hlt
    rw [Array.getElem?_eq_none (Nat.le_refl _), Array.getElem?_eq_getElem hlt] at this
    cases this
  have hb : Below w.heap.size w v := ⟨rfl, rfl, rfl, hs, fun k hk2 => hk k hk2⟩
  have ht : Tabs v := h.below hb
  cases ht
  constructor <;> assumption
end Go.Proofs.YtfdeheodjkpkkaaGreatDoor.V
namespace Go.Proofs.YtfdeheodjkpkkaaGreatDoor.V
open Go Go.RowKit Go.Proofs Go.Proofs.Ev Go.Proofs.YtfdeheodjkpkkaaGreatDoor Go.Proofs.YtfdeheodjkpkkaaGreatDoor.Sp Go.Proofs.YtfdeheodjkpkkaaGreatDoor.Ba
set_option maxHeartbeats 4000000
set_option maxRecDepth 100000
set_option linter.unusedSimpArgs false
set_option linter.unusedVariables false
set_option linter.unusedSectionVars false
def pO (x y : Sp.Ob) : Bool := x.f0 == y.f0 && (seq x.f1 y.f1 && (same pN x.f2 y.f2 && same pS x.f3 y.f3))
theorem same1_obj (x y : Sp.Ob) (hx : wfO x) (hy : wfO y) : Den Tryz.prog 69 [.agg (eO x), .agg (eO y)] [] (.bool (pO x y)) [] [] := by
  have hA := same_den x.f2 y.f2 (by have := hx.la; omega) (by have := hy.la; omega) hx.a hy.a
  have hS := equal_str x.f3 y.f3 (by have := hx.ll; omega) (by have := hy.ll; omega)
  clear hx hy
  unfold pO
  generalize same pN x.f2 y.f2 = b1 at *
  generalize same pS x.f3 y.f3 = b2 at *
  by_cases h0 : x.f0 = y.f0
  · have e : (x.f0 == y.f0) = true := by simp [h0]
    rw [e, Bool.true_and]
    clear e
    cases h1 : seq x.f1 y.f1 with
    | false =>
      rw [Bool.false_and]
      (refine den_walk mix Tryz.func69 rfl (by kernel_rfl) rfl [.tmp 4] rfl (by simp) ?_; simp only [bodyOf, Tryz.f69])
      (repeat refine stp ?_)
      exact FE
    | true =>
      rw [Bool.true_and]
      cases b1 with
      | false =>
        rw [Bool.false_and]
        (refine den_walk mix Tryz.func69 rfl (by kernel_rfl) rfl [.tmp 4] rfl (by simp) ?_; simp only [bodyOf, Tryz.f69])
        (repeat refine stp ?_)
        (refine RC (hA) ?_)
        (repeat refine stp ?_)
        exact FE
      | true =>
        rw [Bool.true_and]
        (refine den_walk mix Tryz.func69 rfl (by kernel_rfl) rfl [.tmp 4] rfl (by simp) ?_; simp only [bodyOf, Tryz.f69])
        (repeat refine stp ?_)
        (refine RC (hA) ?_)
        (repeat refine stp ?_)
        (refine RC (hS) ?_)
        (repeat refine stp ?_)
        exact FE
  · have e : (x.f0 == y.f0) = false := by simp [h0]
    rw [e, Bool.false_and]
    clear e
    (refine den_walk mix Tryz.func69 rfl (by kernel_rfl) rfl [.tmp 4] rfl (by simp) ?_; simp only [bodyOf, Tryz.f69])
    (repeat refine stp ?_)
    exact FE
theorem equalFunc_obj (a b : List Sp.Ob) (ha : a.length ≤ 1099511627776) (hb : b.length ≤ 1099511627776) (g : Nat) (hok : okF Tryz.prog g = true) (p : Sp.Ob → Sp.Ob → Bool) (hp : ∀ x ∈ a, ∀ y ∈ b, Den Tryz.prog g [.agg (eO x), .agg (eO y)] [] (.bool (p x y)) [] []) : Den Tryz.prog 68 [.ro (a.map eO), .ro (b.map eO), .fn g []] [] (.bool (same p a b)) [] [] := by
  (refine den_walk mix Tryz.func68 rfl (by kernel_rfl) rfl [.tmp 6] rfl (by simp) ?_; simp only [bodyOf, Tryz.f68])
  unfold same
  by_cases hl : a.length = b.length
  · rw [decide_eq_true hl, Bool.true_and]
    (repeat refine stp ?_)
    refine Run_loop (fun m σ => ∃ k : Nat, σ.t 15 = .ro (a.map eO) ∧ σ.t 1 = .ro (b.map eO) ∧ σ.t 2 = .fn g [] ∧ σ.t 16 = .int .i64 a.length ∧ σ.t 17 = .int .i64 k ∧ m = a.length - k ∧ eqBy p (a.drop k) (b.drop k) = eqBy p a b ∧ k ≤ a.length) a.length ?_ ?_
    · exact ⟨0, rd, rd, rd, rd, rd, rfl, rfl, by omega⟩
    · rintro m σ ⟨k, h0, h1, h2, h12, h13, rfl, hr, hk⟩
      by_cases hk1 : k < a.length
      · obtain ⟨x, hx⟩ : ∃ x, a[k]? = some x := ⟨_, List.getElem?_eq_getElem hk1⟩
        obtain ⟨y, hy⟩ : ∃ y, b[k]? = some y := ⟨_, List.getElem?_eq_getElem (by omega)⟩
        rw [drop_get hx, drop_get hy, eqBy] at hr
        replace hr := Asd.mk hr
        (repeat refine stp ?_)
        (refine RC (hp x (List.mem_of_getElem? hx) y (List.mem_of_getElem? hy)) ?_)
        cases c0 : p x y with
        | true =>
          (repeat refine stp ?_)
          exact ⟨_, by omega, k + 1, rd, rd, rd, rd, rd, rfl, by rw [← hr.out, c0, Bool.true_and], by omega⟩
        | false =>
          have hr := hr.out
          rw [c0, Bool.false_and] at hr
          rw [← hr]
          clear hr
          (repeat refine stp ?_)
          exact FE
      · have hke : k = a.length := by omega
        subst hke
        rw [List.drop_length, eqBy] at hr
        rw [← hr]
        clear hr
        (repeat refine stp ?_)
        exact FE
        intros; simp_all
  · rw [decide_eq_false hl, Bool.false_and]
    (repeat refine stp ?_)
    exact FE
theorem same_sp (a b : List Sp.Ob) (ha : a.length ≤ 1099511627776) (hb : b.length ≤ 1099511627776) (hwa : ∀ n ∈ a, wfO n) (hwb : ∀ n ∈ b, wfO n) : Den Tryz.prog 28 [.ro (a.map eO), .ro (b.map eO)] [] (.bool (same pO a b)) [] [] := by
  (refine den_walk mix Tryz.func28 rfl (by kernel_rfl) rfl [.tmp 4] rfl (by simp) ?_; simp only [bodyOf, Tryz.f28])
  (repeat refine stp ?_)
  (refine RC (equalFunc_obj a b ha hb _ (by kernel_rfl) pO (fun x hx y hy => same1_obj x y (hwa x hx) (hwb y hy))) ?_)
  (repeat refine stp ?_)
  exact FE
end Go.Proofs.YtfdeheodjkpkkaaGreatDoor.V
namespace Go.Proofs.YtfdeheodjkpkkaaGreatDoor.V
open Go Go.RowKit Go.Proofs Go.Proofs.Ev Go.Proofs.YtfdeheodjkpkkaaGreatDoor Go.Proofs.YtfdeheodjkpkkaaGreatDoor.Sp Go.Proofs.YtfdeheodjkpkkaaGreatDoor.Ba
set_option maxHeartbeats 4000000
set_option maxRecDepth 100000
set_option linter.unusedSimpArgs false
set_option linter.unusedVariables false
set_option linter.unusedSectionVars false
theorem walkL_all : ∀ (a : List Sp.Nd) (k all deep : Int) (st : List Int), 0 ≤ all → all ≤ 1048576 → 0 ≤ (walkL a k all deep st).2.1 ∧ (walkL a k all deep st).2.1 ≤ 1048576
  | [], k, all, deep, st, h0, h1 => by
    rw [walkL]
    exact ⟨by decide, by decide⟩
  | n :: a, k, all, deep, st, h0, h1 => by
    rw [walkL]
    split
    · exact ⟨by decide, by decide⟩
    · rename_i c
      split
      · simp only; omega
      · exact walkL_all a _ _ _ _ (by omega) (by omega)
theorem itemsL_le (a : List Sp.Nd) : 0 ≤ itemsL a ∧ itemsL a ≤ 1048576 := by
  unfold itemsL walk
  split
  · exact walkL_all a _ _ _ _ (by decide) (by decide)
  · exact ⟨by decide, by decide⟩
def measGo : List Sp.Ob → Int × Int × Int → Int × Int × Int
  | [], s => s
  | o :: l, s => measGo l (if s.1 < rankL o.f2 then rankL o.f2 else s.1, if s.2.1 < depthL o.f2 then depthL o.f2 else s.2.1, s.2.2 + itemsL o.f2)
def measS (w : List Sp.Ob) : Int × Int × Int := measGo w (0, 0, 0)
theorem meas_den (w : List Sp.Ob) (hl : w.length ≤ 1099511627776) (hw : ∀ o ∈ w, wfO o) : Den Tryz.prog 26 [.ro (w.map eO)] [] (.agg [.int .i64 0, .int .i64 w.length, .int .i64 (measS w).1, .int .i64 (measS w).2.1, .int .i64 (measS w).2.2]) [] [] := by
  unfold measS
  (refine den_walk mix Tryz.func26 rfl (by kernel_rfl) rfl [.cell 2 39] rfl (by simp) ?_; simp only [bodyOf, Tryz.f26])
  (repeat refine stp ?_)
  refine Run_loop (fun m σ => ∃ (k v2 v3 : Nat) (r d i : Int), σ.t 2 = .ptr (.loc 2 0) v2 0 0 ∧ σ.m (.loc 2 0) = ⟨v2, some (.rows false 39 5 [[.int .i64 0, .int .i64 0, .int .i64 0, .int .i64 0, .int .i64 0]])⟩ ∧ σ.t 3 = .ptr (.loc 3 0) v3 0 0 ∧ σ.m (.loc 3 0) = ⟨v3, some (.rows false 39 5 [[.int .i64 0, .int .i64 w.length, .int .i64 r, .int .i64 d, .int .i64 i]])⟩ ∧ σ.t 9 = .ro (w.map eO) ∧ σ.t 10 = .int .i64 w.length ∧ σ.t 11 = .int .i64 k ∧ measGo (w.drop k) (r, d, i) = measGo w (0, 0, 0) ∧ m = w.length - k ∧ k ≤ w.length ∧ 0 ≤ i ∧ i ≤ k * 1048576) w.length ?_ ?_
  · exact ⟨0, _, _, 0, 0, 0, rd, rdm, rd, rdm, rd, rd, rd, rfl, rfl, by omega, by omega, by omega⟩
  rintro m σ ⟨k, v2, v3, r, d, i, g2, gm2, g3, gm3, g9, g10, g11, hr, rfl, hk, hi0, hi1⟩
  by_cases hk1 : k < w.length
  · obtain ⟨x, hx⟩ : ∃ x, w[k]? = some x := ⟨_, List.getElem?_eq_getElem hk1⟩
    have hwx := hw x (List.mem_of_getElem? hx)
    have hR := rank_arr x.f2 (by have := hwx.la; omega) hwx.a
    have hD := depth_arr x.f2 (by have := hwx.la; omega) hwx.a
    have hI := items_arr x.f2 (by have := hwx.la; omega) hwx.a
    have hIl := itemsL_le x.f2
    rw [drop_get hx, measGo] at hr
    simp only at hr
    replace hr := Asd.mk hr
    generalize rankL x.f2 = rr at *
    generalize depthL x.f2 = dd at *
    generalize itemsL x.f2 = ii at *
    clear hw hwx
    (repeat refine stp ?_)
    (refine DC (hR) ?_)
    (repeat refine stp ?_)
    (refine DC (hD) ?_)
    (repeat refine stp ?_)
    (refine DC (hI) ?_)
    (repeat refine stp ?_)
    exact ⟨_, by omega, k + 1, v2, v3, if r < rr then rr else r, if d < dd then dd else d, i + ii, rd, rdm, rd, rdm, rd, rd, rd, hr.out, rfl, by omega, by omega, by omega⟩
  · have hke : k = w.length := by omega
    subst hke
    rw [List.drop_length, measGo] at hr
    rw [← hr]
    clear hr hw
    (repeat refine stp ?_)
    exact FE
end Go.Proofs.YtfdeheodjkpkkaaGreatDoor.V
namespace Go.Proofs.YtfdeheodjkpkkaaGreatDoor.V
open Go Go.RowKit Go.Proofs Go.Proofs.Ev Go.Proofs.YtfdeheodjkpkkaaGreatDoor Go.Proofs.YtfdeheodjkpkkaaGreatDoor.Sp Go.Proofs.YtfdeheodjkpkkaaGreatDoor.Ba Go.Proofs.YtfdeheodjkpkkaaGreatDoorW.PrintWords Go.Proofs.YtfdeheodjkpkkaaGreatDoor.Dm
set_option maxHeartbeats 4000000
set_option maxRecDepth 100000
set_option linter.unusedSimpArgs false
set_option linter.unusedVariables false
set_option linter.unusedSectionVars false
def strLe (a b : ByteArray) : Bool := Op.bytesLess a.toList b.toList || a.toList == b.toList
noncomputable def stepS : Option Sp.Ob → Sp.Ob → Bool
  | none, o => oneB o
  | some p, o => oneB o && !strLe o.f1 p.f1
noncomputable def rightGo : Option Sp.Ob → List Sp.Ob → Bool
  | _, [] => true
  | p, o :: l => stepS p o && rightGo (some o) l
noncomputable def rightS (w : List Sp.Ob) : Bool := decide (w.length ≤ 4096) && rightGo none w
def prevO (w : List Sp.Ob) : Nat → Option Sp.Ob
  | 0 => none
  | k + 1 => w[k]?
theorem right_sp (w : List Sp.Ob) (hl : w.length ≤ 1099511627776) (hw : ∀ o ∈ w, wfO o) : Den Tryz.prog 22 [.ro (w.map eO)] [] (.bool (rightS w)) [] [] := by
  unfold rightS
  by_cases h1 : w.length > 4096
  · rw [decide_eq_false (by omega), Bool.false_and]
    (refine den_walk mix Tryz.func22 rfl (by kernel_rfl) rfl [.tmp 2] rfl (by simp) ?_; simp only [bodyOf, Tryz.f22])
    (repeat refine stp ?_)
    exact FE
  rw [decide_eq_true (by omega), Bool.true_and]
  (refine den_walk mix Tryz.func22 rfl (by kernel_rfl) rfl [.tmp 2] rfl (by simp) ?_; simp only [bodyOf, Tryz.f22])
  (repeat refine stp ?_)
  refine Run_loop (fun m σ => ∃ (k : Nat), σ.t 0 = .ro (w.map eO) ∧ σ.t 8 = .ro (w.map eO) ∧ σ.t 9 = .int .i64 w.length ∧ σ.t 10 = .int .i64 k ∧ rightGo (prevO w k) (w.drop k) = rightGo none w ∧ m = w.length - k ∧ k ≤ w.length) w.length ?_ ?_
  · exact ⟨0, rd, rd, rd, rd, rfl, rfl, by omega⟩
  rintro m σ ⟨k, g0, g8, g9, g10, hr, rfl, hk⟩
  by_cases hk1 : k < w.length
  · obtain ⟨x, hx⟩ : ∃ x, w[k]? = some x := ⟨_, List.getElem?_eq_getElem hk1⟩
    have hD := one_den x (hw x (List.mem_of_getElem? hx))
    rw [drop_get hx, rightGo] at hr
    by_cases hz : k = 0
    · subst hz
      simp only [prevO, stepS] at hr
      cases hb : oneB x with
      | false =>
        rw [hb] at hr hD
        rw [Bool.false_and] at hr
        rw [← hr]
        clear hr hw
        (repeat refine stp ?_)
        (refine DC (hD) ?_)
        (repeat refine stp ?_)
        exact FE
      | true =>
        rw [hb] at hr hD
        rw [Bool.true_and] at hr
        replace hr := Asd.mk hr
        clear hw
        (repeat refine stp ?_)
        (refine DC (hD) ?_)
        (repeat refine stp ?_)
        exact ⟨_, by omega, 1, rd, rd, rd, rd, by rw [← hr.out]; simp only [prevO, hx], rfl, by omega⟩
    · obtain ⟨j, hkj⟩ : ∃ j, k = j + 1 := ⟨k - 1, by omega⟩
      obtain ⟨p, hp⟩ : ∃ p, w[j]? = some p := ⟨_, List.getElem?_eq_getElem (by omega)⟩
      have hpv : prevO w k = some p := by rw [hkj]; exact hp
      have hj : (k : Int) - 1 = j := by omega
      have hk0 : 0 < k := by omega
      have hjl : j < w.length := by omega
      rw [hpv, stepS] at hr
      clear hpv hz hkj
      cases hb : oneB x with
      | false =>
        rw [hb] at hr hD
        rw [Bool.false_and, Bool.false_and] at hr
        rw [← hr]
        clear hr hw
        (repeat refine stp ?_)
        (refine DC (hD) ?_)
        (repeat refine stp ?_)
        exact FE
      | true =>
        rw [hb] at hr hD
        rw [Bool.true_and] at hr
        cases hc : strLe x.f1 p.f1 with
        | true =>
          rw [hc, Bool.not_true, Bool.false_and] at hr
          rw [← hr]
          unfold strLe at hc
          clear hr hw
          (repeat refine stp ?_)
          (refine DC (hD) ?_)
          (repeat refine stp ?_)
          exact FE
        | false =>
          rw [hc, Bool.not_false, Bool.true_and] at hr
          unfold strLe at hc
          replace hr := Asd.mk hr
          clear hw
          (repeat refine stp ?_)
          (refine DC (hD) ?_)
          (repeat refine stp ?_)
          exact ⟨_, by omega, k + 1, rd, rd, rd, rd, by rw [← hr.out]; simp only [prevO, hx], rfl, by omega⟩
  · have hke : k = w.length := by omega
    subst hke
    rw [List.drop_length, rightGo] at hr
    rw [← hr]
    clear hr hw
    (repeat refine stp ?_)
    exact FE
end Go.Proofs.YtfdeheodjkpkkaaGreatDoor.V
namespace Go.Proofs.YtfdeheodjkpkkaaGreatDoor.V
open Go Go.RowKit Go.Proofs Go.Proofs.Ev Go.Proofs.YtfdeheodjkpkkaaGreatDoor Go.Proofs.YtfdeheodjkpkkaaGreatDoor.Sp Go.Proofs.YtfdeheodjkpkkaaGreatDoor.Ba Go.Proofs.YtfdeheodjkpkkaaGreatDoorW.PrintWords Go.Proofs.YtfdeheodjkpkkaaGreatDoor.Dm
set_option maxHeartbeats 4000000
set_option maxRecDepth 100000
set_option linter.unusedSimpArgs false
set_option linter.unusedVariables false
set_option linter.unusedSectionVars false
theorem copy_sp_nil : Den Tryz.prog 20 [.ro []] [] (.ro []) [] [] := by
  (refine den_walk mix Tryz.func20 rfl (by kernel_rfl) rfl [.tmp 2] rfl (by simp) ?_; simp only [bodyOf, Tryz.f20])
  (repeat refine stp ?_)
  (refine RC (clone_obj_nil) ?_)
  (repeat refine stp ?_)
  refine Run_loop (fun m σ => σ.t 10 = .int .i64 0 ∧ σ.t 9 = .int .i64 0 ∧ σ.t 3 = .ro []) 0 ⟨rd, rd, rd⟩ ?_
  rintro m σ ⟨h10, h9, h3⟩
  (repeat refine stp ?_)
  exact FE
theorem copy_sp_own (x : Sp.Ob) (l : List Sp.Ob) (ha : l.length + 1 ≤ 1099511627776) (hw : ∀ o ∈ x :: l, wfO o) : Den Tryz.prog 20 [.ro ((x :: l).map eO)] [] (.own (.loc 0 0) 1 (l.length + 1)) [.rows true 29 4 ((x :: l).map eO)] [] := by
  have hsf0 := sf_eO l
  (refine den_walk mix Tryz.func20 rfl (by kernel_rfl) rfl [.tmp 2] rfl (by simp) ?_; simp only [bodyOf, Tryz.f20])
  (repeat refine stp ?_)
  (refine RN (clone_obj_own x l (by omega)) ?_)
  generalize hA : x :: l = A at *
  have hl : l.length + 1 = A.length := by rw [← hA]; rfl
  rw [hl]
  rw [hl] at ha
  have htk := take_allm eO A
  have hsf := sf_eO A
  (repeat refine stp ?_)
  refine Run_loop (fun m σ => ∃ (k : Nat) (v : Nat), σ.t 8 = .own (.loc 7 0) v A.length ∧ σ.t 9 = .int .i64 A.length ∧ σ.t 10 = .int .i64 k ∧ σ.t 3 = .own (.loc 7 0) v A.length ∧ σ.m (.loc 7 0) = ⟨v, some (.rows true 29 4 (A.map eO))⟩ ∧ m = A.length - k ∧ k ≤ A.length) A.length ?_ ?_
  · exact ⟨0, _, rd, rd, rd, rd, rdm, rfl, by omega⟩
  · rintro m σ ⟨k, v, h8, h9, h10, h3, hm, rfl, hk⟩
    by_cases hk1 : k < A.length
    · obtain ⟨o, hs⟩ : ∃ o, A[k]? = some o := ⟨_, List.getElem?_eq_getElem hk1⟩
      have hse : (A.map eO).set k [.int .i64 o.f0, .str o.f1, .ro (o.f2.map eN), .ro (o.f3.map eS)] = A.map eO := set_same (map_get hs)
      have hwn := hw o (List.mem_of_getElem? hs)
      have hc1 := copy_arr o.f2 hwn.la hwn.a
      have hc2 := clone_str o.f3 (by have := hwn.ll; omega)
      clear hw
      (repeat refine stp ?_)
      (refine DC (hc1) ?_)
      (repeat refine stp ?_)
      (refine DC (hc2) ?_)
      (repeat refine stp ?_)
      exact ⟨_, by omega, k + 1, v, rd, rd, rd, rd, rdm, rfl, by omega⟩
    · have hke : k = A.length := by omega
      subst hke
      (repeat refine stp ?_)
      exact FN (.loc 7 0)
end Go.Proofs.YtfdeheodjkpkkaaGreatDoor.V
namespace Go.Proofs.YtfdeheodjkpkkaaGreatDoor.V
open Go Go.RowKit Go.Proofs Go.Proofs.Ev Go.Proofs.YtfdeheodjkpkkaaGreatDoor Go.Proofs.YtfdeheodjkpkkaaGreatDoor.Sp Go.Proofs.YtfdeheodjkpkkaaGreatDoor.Ba
set_option maxHeartbeats 4000000
set_option maxRecDepth 100000
set_option linter.unusedSimpArgs false
set_option linter.unusedVariables false
set_option linter.unusedSectionVars false
noncomputable def tightO (o : Sp.Ob) : Sp.Ob := if o.f0 = 2 then o else ⟨o.f0, o.f1, (makeL o.f2).1, o.f3⟩
noncomputable def okO (o : Sp.Ob) : Bool := decide (o.f0 = 2) || (makeL o.f2).2
noncomputable def tightS (w : List Sp.Ob) : List Sp.Ob × Bool :=
  if w.any (fun o => !okO o) = true then ([], false) else if rightS (w.map tightO) = false then ([], false) else (w.map tightO, true)
theorem tightO_wf {o : Sp.Ob} (h : wfO o) : wfO (tightO o) := by
  unfold tightO
  split
  · exact h
  · obtain ⟨h1, h2⟩ := makeL_facts o.f2 h.a
    exact ⟨h.k, h.n, Nat.le_trans h1 h.la, h2, h.ll, h.l⟩
theorem tight_sp_nil : Den Tryz.prog 18 [.ro []] [] (.tup [.ro [], .bool true]) [] [] := by
  have hR := right_sp [] (by simp) (fun o h => by cases h)
  have e : rightS [] = true := by simp [rightS, rightGo]
  rw [e] at hR
  clear e
  (refine den_walk mix Tryz.func18 rfl (by kernel_rfl) rfl [.tmp 2, .tmp 3] rfl (by simp) ?_; simp only [bodyOf, Tryz.f18])
  (repeat refine stp ?_)
  (refine RC (copy_sp_nil) ?_)
  (repeat refine stp ?_)
  refine Run_loop (fun m σ => σ.t 11 = .ro [] ∧ σ.t 12 = .int .i64 0 ∧ σ.t 13 = .int .i64 0 ∧ σ.t 4 = .ro []) 0 ⟨rd, rd, rd, rd⟩ ?_
  rintro m σ ⟨h11, h12, h13, h4⟩
  (repeat refine stp ?_)
  (refine RC (hR) ?_)
  (repeat refine stp ?_)
  exact FE
theorem tight_sp_cons (x : Sp.Ob) (l : List Sp.Ob) (ha : l.length + 1 ≤ 1099511627776) (hw : ∀ o ∈ x :: l, wfO o) : Den Tryz.prog 18 [.ro ((x :: l).map eO)] [] (.tup [.ro ((tightS (x :: l)).1.map eO), .bool (tightS (x :: l)).2]) [] [] := by
  have hC := copy_sp_own x l ha hw
  have hsf0 := sf_eO l
  (refine den_walk mix Tryz.func18 rfl (by kernel_rfl) rfl [.tmp 2, .tmp 3] rfl (by simp) ?_; simp only [bodyOf, Tryz.f18])
  (repeat refine stp ?_)
  (refine RN (hC) ?_)
  clear hC
  generalize hA : x :: l = A at *
  have hl : l.length + 1 = A.length := by rw [← hA]; rfl
  rw [hl]
  rw [hl] at ha
  clear hl hA hsf0
  obtain ⟨G, hG⟩ : ∃ G, G = A.map tightO := ⟨_, rfl⟩
  have hGl : G.length = A.length := by rw [hG]; simp
  have hwG : ∀ o ∈ G, wfO o := fun o ho => by
    rw [hG] at ho
    obtain ⟨y, h1, h2⟩ := List.mem_map.1 ho
    rw [← h2]
    exact tightO_wf (hw y h1)
  have hT : tightS A = if A.any (fun o => !okO o) = true then ([], false) else if rightS G = false then ([], false) else (G, true) := by rw [hG]; rfl
  rw [hT]
  clear hT
  have hRt := right_sp G (by omega) hwG
  have hgi : ∀ (k : Nat) (y : Sp.Ob), A[k]? = some y → G[k]? = some (tightO y) := fun k y h => by rw [hG, List.getElem?_map, h]; rfl
  generalize rightS G = rb at *
  replace hGl := Asd.mk hGl
  clear hG hwG
  (repeat refine stp ?_)
  refine Run_loop (fun m σ => ∃ (k : Nat) (v : Nat), σ.t 4 = .own (.loc 10 0) v A.length ∧ σ.t 11 = .own (.loc 10 0) v A.length ∧ σ.t 12 = .int .i64 A.length ∧ σ.t 13 = .int .i64 k ∧ σ.m (.loc 10 0) = ⟨v, some (.rows true 29 4 ((G.take k ++ A.drop k).map eO))⟩ ∧ m = A.length - k ∧ k ≤ A.length ∧ (A.drop k).any (fun o => !okO o) = A.any (fun o => !okO o)) A.length ?_ ?_
  · exact ⟨0, _, rd, rd, rd, rd, rdm, rfl, by omega, rfl⟩
  rintro m σ ⟨k, v, g4, g11, g12, g13, gm, rfl, hk, hr⟩
  by_cases hk1 : k < A.length
  · have hGl := hGl.out
    obtain ⟨y, hy⟩ : ∃ y, A[k]? = some y := ⟨_, List.getElem?_eq_getElem hk1⟩
    have hgy := hgi k y hy
    have hwy := hw y (List.mem_of_getElem? hy)
    have e2 : (G.take k).length = k := by simp; omega
    have hget : (G.take k ++ A.drop k)[k]? = some y := by rw [List.getElem?_append_right (by omega), e2, Nat.sub_self, drop_get hy]; rfl
    have hset : ((G.take k ++ A.drop k).map eO).set k (eO (tightO y)) = (G.take (k + 1) ++ A.drop (k + 1)).map eO := by
      have e1 : G.take (k + 1) = G.take k ++ [tightO y] := by rw [List.take_add_one, hgy]; rfl
      rw [e1, drop_get hy, List.map_append, List.set_append_right _ _ (by simp; omega)]
      simp only [List.length_map, e2, Nat.sub_self, List.map_append, List.map_cons, List.map_nil, List.set_cons_zero, List.append_assoc, List.cons_append, List.nil_append]
    have hlr : (G.take k ++ A.drop k).length = A.length := by simp; omega
    rw [drop_get hy, List.any_cons] at hr
    by_cases h2 : y.f0 = 2
    · have et : tightO y = y := by unfold tightO; rw [if_pos h2]
      rw [et, set_same (map_get hget)] at hset
      have eo : okO y = true := by unfold okO; simp [h2]
      rw [eo, Bool.not_true, Bool.false_or] at hr
      generalize (G.take k ++ A.drop k) = R at *
      replace hset := Asd.mk hset
      replace hr := Asd.mk hr
      clear hgy e2 hy et eo hgi hw
      (repeat refine stp ?_)
      exact ⟨_, by omega, k + 1, v, rd, rd, rd, rd, by rw [← hset.out]; exact rdm, rfl, by omega, hr.out⟩
    · have et : tightO y = ⟨y.f0, y.f1, (makeL y.f2).1, y.f3⟩ := by unfold tightO; rw [if_neg h2]
      have eo : okO y = (makeL y.f2).2 := by unfold okO; simp [h2]
      have hM := make_den y.f2 hwy.la hwy.a
      rw [et] at hset
      rw [eo] at hr
      generalize makeL y.f2 = M at *
      simp only [eO] at hset
      generalize (G.take k ++ A.drop k) = R at *
      clear hgy e2 hy et eo hgi hw
      cases hb : M.2 with
      | false =>
        rw [hb] at hr hM
        rw [Bool.not_false, Bool.true_or] at hr
        rw [if_pos hr.symm]
        simp only [List.map_nil]
        clear hr hset
        (repeat refine stp ?_)
        (refine RC (hM) ?_)
        (repeat refine stp ?_)
        exact FZ (.loc 2 0)
      | true =>
        rw [hb] at hr hM
        rw [Bool.not_true, Bool.false_or] at hr
        replace hr := Asd.mk hr
        (repeat refine stp ?_)
        (refine RC (hM) ?_)
        (repeat refine stp ?_)
        exact ⟨_, by omega, k + 1, v, rd, rd, rd, rd, rdm, rfl, by omega, hr.out⟩
  · have hke : k = A.length := by omega
    subst hke
    have hGl := hGl.out
    rw [List.drop_length, List.any_nil] at hr
    rw [if_neg (by rw [← hr]; decide)]
    rw [List.take_of_length_le (by omega), List.drop_length, List.append_nil] at gm
    have htk := take_allm eO G
    have hsf := sf_eO G
    have hle : A.length ≤ G.length := by omega
    have htk2 : (G.map eO).take A.length = G.map eO := by rw [← hGl]; exact htk
    clear hr hk1 hk hgi hw htk hGl
    (repeat refine stp ?_)
    refine RZ (.loc 10 0) ?_
    (repeat refine stp ?_)
    (refine RC (hRt) ?_)
    (repeat refine stp ?_)
    cases rb with
    | false =>
      rw [if_pos rfl]
      simp only [List.map_nil]
      (repeat refine stp ?_)
      exact FZ (.loc 2 0)
    | true =>
      rw [if_neg (by decide)]
      (repeat refine stp ?_)
      exact FE
theorem tight_sp (w : List Sp.Ob) (ha : w.length ≤ 1099511627776) (hw : ∀ o ∈ w, wfO o) : Den Tryz.prog 18 [.ro (w.map eO)] [] (.tup [.ro ((tightS w).1.map eO), .bool (tightS w).2]) [] [] := by
  cases w with
  | nil =>
    have e : tightS [] = ([], true) := by simp [tightS, rightS, rightGo]
    rw [e]
    exact tight_sp_nil
  | cons x l => exact tight_sp_cons x l ha hw
theorem loose_sp (w : List Sp.Ob) (ha : w.length ≤ 1099511627776) (hw : ∀ o ∈ w, wfO o) : Den Tryz.prog 24 [.ro (w.map eO)] [] (.bool (tightS w).2) [] [] := by
  have h := tight_sp w ha hw
  (refine den_walk mix Tryz.func24 rfl (by kernel_rfl) rfl [.tmp 2] rfl (by simp) ?_; simp only [bodyOf, Tryz.f24])
  (repeat refine stp ?_)
  (refine RC (h) ?_)
  (repeat refine stp ?_)
  exact FE
end Go.Proofs.YtfdeheodjkpkkaaGreatDoor.V
namespace Go.Proofs.YtfdeheodjkpkkaaGreatDoor.V
open Go Go.RowKit Go.Proofs Go.Proofs.Ev Go.Proofs.YtfdeheodjkpkkaaGreatDoor Go.Proofs.YtfdeheodjkpkkaaGreatDoor.Sp Go.Proofs.YtfdeheodjkpkkaaGreatDoor.Ba
set_option maxHeartbeats 4000000
set_option maxRecDepth 100000
set_option linter.unusedSimpArgs false
set_option linter.unusedVariables false
set_option linter.unusedSectionVars false
theorem bytesLess_trans : ∀ (a b c : List UInt8), Op.bytesLess a b = true → Op.bytesLess b c = true → Op.bytesLess a c = true
  | [], [], c, h, _ => by simp [Op.bytesLess] at h
  | [], _ :: _, [], _, h => by simp [Op.bytesLess] at h
  | [], _ :: _, _ :: _, _, _ => by simp [Op.bytesLess]
  | _ :: _, [], c, h, _ => by simp [Op.bytesLess] at h
  | _ :: _, _ :: _, [], _, h => by simp [Op.bytesLess] at h
  | a :: x, b :: y, c :: z, h1, h2 => by
    have ih := bytesLess_trans x y z
    simp only [Op.bytesLess, Bool.or_eq_true, Bool.and_eq_true, decide_eq_true_eq, beq_iff_eq] at h1 h2 ⊢
    rcases h1 with h1 | ⟨rfl, h1⟩
    · rcases h2 with h2 | ⟨rfl, h2⟩
      · left
        have a1 := UInt8.lt_iff_toNat_lt.1 h1
        have a2 := UInt8.lt_iff_toNat_lt.1 h2
        exact UInt8.lt_iff_toNat_lt.2 (by omega)
      · exact .inl h1
    · rcases h2 with h2 | ⟨rfl, h2⟩
      · exact .inl h2
      · exact .inr ⟨rfl, ih h1 h2⟩
/-- One name is less than another. -/
def nlt (a b : Sp.Ob) : Bool := Op.bytesLess a.f1.toList b.f1.toList
theorem nlt_le (a b : Sp.Ob) : (!strLe b.f1 a.f1) = nlt a b := by
  unfold strLe nlt
  rw [G.bytesLess_or, Bool.not_not]
theorem nlt_trans {a b c : Sp.Ob} (h1 : nlt a b = true) (h2 : nlt b c = true) : nlt a c = true := bytesLess_trans _ _ _ h1 h2
theorem stepS_some (p o : Sp.Ob) : stepS (some p) o = (oneB o && nlt p o) := by rw [stepS, nlt_le]
/-- The names rise. -/
def rises : List Sp.Ob → Prop
  | [] => True
  | x :: l => (∀ y ∈ l, nlt x y = true) ∧ rises l
theorem rightGo_some : ∀ (l : List Sp.Ob) (p : Sp.Ob), rightGo (some p) l = true ↔ (∀ x ∈ l, oneB x = true ∧ nlt p x = true) ∧ rises l
  | [], p => by simp [rightGo, rises]
  | x :: l, p => by
    rw [rightGo, stepS_some, Bool.and_eq_true, Bool.and_eq_true, rightGo_some l x]
    constructor
    · rintro ⟨⟨h1, h2⟩, h3, h4⟩
      refine ⟨fun y hy => ?_, fun y hy => (h3 y hy).2, h4⟩
      rcases List.mem_cons.1 hy with rfl | hy
      · exact ⟨h1, h2⟩
      · exact ⟨(h3 y hy).1, nlt_trans h2 (h3 y hy).2⟩
    · rintro ⟨h1, h2, h3⟩
      exact ⟨h1 x (by simp), fun y hy => ⟨(h1 y (by simp [hy])).1, h2 y hy⟩, h3⟩
theorem rightGo_none (l : List Sp.Ob) : rightGo none l = true ↔ (∀ x ∈ l, oneB x = true) ∧ rises l := by
  cases l with
  | nil => simp [rightGo, rises]
  | cons x l =>
    rw [rightGo, stepS, Bool.and_eq_true, rightGo_some]
    constructor
    · rintro ⟨h1, h3, h4⟩
      refine ⟨fun y hy => ?_, fun y hy => (h3 y hy).2, h4⟩
      rcases List.mem_cons.1 hy with rfl | hy
      · exact h1
      · exact (h3 y hy).1
    · rintro ⟨h1, h2, h3⟩
      exact ⟨h1 x (by simp), fun y hy => ⟨h1 y (by simp [hy]), h2 y hy⟩, h3⟩
theorem rightS_iff (w : List Sp.Ob) : rightS w = true ↔ w.length ≤ 4096 ∧ (∀ x ∈ w, oneB x = true) ∧ rises w := by
  unfold rightS
  rw [Bool.and_eq_true, decide_eq_true_eq, rightGo_none]
theorem rises_app : ∀ (a b : List Sp.Ob), rises (a ++ b) ↔ rises a ∧ rises b ∧ ∀ x ∈ a, ∀ y ∈ b, nlt x y = true
  | [], b => by simp [rises]
  | x :: a, b => by
    simp only [List.cons_append, rises, rises_app a b, List.mem_append, List.mem_cons]
    constructor
    · rintro ⟨h1, h2, h3, h4⟩
      refine ⟨⟨fun y hy => h1 y (.inl hy), h2⟩, h3, fun z hz y hy => ?_⟩
      rcases hz with rfl | hz
      · exact h1 y (.inr hy)
      · exact h4 z hz y hy
    · rintro ⟨⟨h1, h2⟩, h3, h4⟩
      exact ⟨fun y hy => hy.elim (h1 y) (h4 x (.inl rfl) y), h2, h3, fun z hz y hy => h4 z (.inr hz) y hy⟩
/-- All of one row are less than all of another one, if the last is less than the first. -/
theorem apart_of {a b : List Sp.Ob} {x y : Sp.Ob} (ha : rises (a ++ [x])) (hb : rises (y :: b)) (h : nlt x y = true) : ∀ u ∈ a ++ [x], ∀ v ∈ y :: b, nlt u v = true := by
  intro u hu v hv
  have h1 : nlt u y = true := by
    rcases List.mem_append.1 hu with hu | hu
    · exact nlt_trans (((rises_app a [x]).1 ha).2.2 u hu x (by simp)) h
    · simp only [List.mem_singleton] at hu
      rw [hu]; exact h
  rcases List.mem_cons.1 hv with rfl | hv
  · exact h1
  · exact nlt_trans h1 (hb.1 v hv)
theorem rightS_one (x : Sp.Ob) : rightS [x] = oneB x := by
  unfold rightS rightGo rightGo stepS
  simp
theorem rightS_each {w : List Sp.Ob} (h : rightS w = true) : ∀ o ∈ w, oneB o = true := ((rightS_iff w).1 h).2.1
/-- Measures. -/
theorem measGo_app : ∀ (a b : List Sp.Ob) (s : Int × Int × Int), measGo (a ++ b) s = measGo b (measGo a s)
  | [], b, s => rfl
  | x :: a, b, s => by
    rw [List.cons_append, measGo, measGo, measGo_app a b]
@[go_sem] def mjoin (a b : Int × Int × Int) : Int × Int × Int := (if a.1 < b.1 then b.1 else a.1, if a.2.1 < b.2.1 then b.2.1 else a.2.1, a.2.2 + b.2.2)
theorem measGo_from : ∀ (l : List Sp.Ob) (s : Int × Int × Int), 0 ≤ s.1 → 0 ≤ s.2.1 → measGo l s = mjoin s (measS l) ∧ 0 ≤ (measGo l s).1 ∧ 0 ≤ (measGo l s).2.1
  | [], s, h1, h2 => by
    unfold measS mjoin measGo
    refine ⟨?_, h1, h2⟩
    obtain ⟨a, b, c⟩ := s
    simp only at h1 h2 ⊢
    rw [if_neg (by omega), if_neg (by omega), Int.add_zero]
  | x :: l, s, h1, h2 => by
    have e0 : measS (x :: l) = measGo l (if (0 : Int) < rankL x.f2 then rankL x.f2 else 0, if (0 : Int) < depthL x.f2 then depthL x.f2 else 0, 0 + itemsL x.f2) := rfl
    have g0 : ∀ r : Int, (0 : Int) ≤ if (0 : Int) < r then r else 0 := fun r => by split <;> omega
    have g1 : ∀ (s r : Int), 0 ≤ s → (0 : Int) ≤ if s < r then r else s := fun s r h => by split <;> omega
    have i1 := measGo_from l (if s.1 < rankL x.f2 then rankL x.f2 else s.1, if s.2.1 < depthL x.f2 then depthL x.f2 else s.2.1, s.2.2 + itemsL x.f2) (g1 _ _ h1) (g1 _ _ h2)
    have i2 := measGo_from l (if (0 : Int) < rankL x.f2 then rankL x.f2 else 0, if (0 : Int) < depthL x.f2 then depthL x.f2 else 0, 0 + itemsL x.f2) (g0 _) (g0 _)
    rw [e0, measGo]
    refine ⟨?_, i1.2⟩
    rw [i1.1, i2.1]
    generalize measS l = m
    generalize rankL x.f2 = r
    generalize depthL x.f2 = d
    generalize itemsL x.f2 = i
    obtain ⟨a, b, c⟩ := s
    obtain ⟨p, q, t⟩ := m
    simp only at h1 h2
    unfold mjoin
    simp only [Prod.mk.injEq]
    have key : ∀ (a r p : Int), 0 ≤ a → (if (if a < r then r else a) < p then p else (if a < r then r else a)) = (if a < (if (if 0 < r then r else 0) < p then p else (if 0 < r then r else 0)) then (if (if 0 < r then r else 0) < p then p else (if 0 < r then r else 0)) else a) := by
      intro a r p h
      repeat' split
      all_goals omega
    exact ⟨key _ _ _ h1, key _ _ _ h2, by omega⟩
theorem measS_app (a b : List Sp.Ob) : measS (a ++ b) = mjoin (measS a) (measS b) := by
  have h0 := measGo_from a (0, 0, 0) (Int.le_refl _) (Int.le_refl _)
  have e : measS (a ++ b) = measGo b (measS a) := measGo_app a b (0, 0, 0)
  rw [e]
  exact (measGo_from b (measS a) h0.2.1 h0.2.2).1
theorem measS_nonneg (w : List Sp.Ob) : 0 ≤ (measS w).1 ∧ 0 ≤ (measS w).2.1 := (measGo_from w (0, 0, 0) (Int.le_refl _) (Int.le_refl _)).2
theorem measGo_items : ∀ (l : List Sp.Ob) (s : Int × Int × Int), s.2.2 ≤ (measGo l s).2.2 ∧ (measGo l s).2.2 ≤ s.2.2 + l.length * 1048576
  | [], s => by simp [measGo]
  | x :: l, s => by
    have h := measGo_items l (if s.1 < rankL x.f2 then rankL x.f2 else s.1, if s.2.1 < depthL x.f2 then depthL x.f2 else s.2.1, s.2.2 + itemsL x.f2)
    have hi := itemsL_le x.f2
    rw [measGo]
    simp only [List.length_cons] at h ⊢
    omega
theorem measS_items (w : List Sp.Ob) : 0 ≤ (measS w).2.2 ∧ (measS w).2.2 ≤ w.length * 1048576 := by
  have h := measGo_items w (0, 0, 0)
  unfold measS
  simp only at h
  omega
end Go.Proofs.YtfdeheodjkpkkaaGreatDoor.V
