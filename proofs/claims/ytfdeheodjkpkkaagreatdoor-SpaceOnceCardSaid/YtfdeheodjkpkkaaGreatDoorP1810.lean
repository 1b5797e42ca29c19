/- What the laws lean on, part 10: texts of this claim, merged and cut to what is used. -/
import Derived.Test.YtfdeheodjkpkkaaGreatDoorP18Sp4
import Derived.Test.YtfdeheodjkpkkaaGreatDoorP189
import Derived.Test.YtfdeheodjkpkkaaGreatDoorP182
set_option linter.unusedVariables false
set_option linter.unusedSimpArgs false
set_option linter.unusedSectionVars false
namespace Go.Proofs.YtfdeheodjkpkkaaGreatDoor.V
open Go Go.RowKit Go.Proofs Go.Proofs.Ev Go.Proofs.YtfdeheodjkpkkaaGreatDoor Go.Proofs.YtfdeheodjkpkkaaGreatDoor.Sp Go.Proofs.YtfdeheodjkpkkaaGreatDoor.Ba
set_option maxHeartbeats 4000000
set_option maxRecDepth 100000
set_option linter.unusedSimpArgs false
set_option linter.unusedVariables false
set_option linter.unusedSectionVars false
theorem few16Go_all : ∀ (l : List ByteArray) (n : Int), few16Go l n ≠ none → ∀ s ∈ l, s.size ≤ 200
  | [], n, _, s, hs => by cases hs
  | x :: l, n, h, s, hs => by
    rw [few16Go] at h
    split at h
    · exact absurd rfl h
    · rcases List.mem_cons.1 hs with rfl | hs
      · omega
      · exact few16Go_all l _ h s hs
theorem few16_facts {l : List ByteArray} (h : few16 l = true) : l.length ≤ 50 ∧ ∀ s ∈ l, s.size ≤ 200 := by
  unfold few16 at h
  split at h
  · cases h
  · rename_i n hn
    simp only [Bool.and_eq_true, decide_eq_true_eq] at h
    rw [List.take_of_length_le (by omega)] at hn
    exact ⟨h.1, few16Go_all l 0 (by rw [hn]; simp)⟩
theorem few10Go_all : ∀ (l : List Sp.Nd) (n : Int), few10Go l n ≠ none → ∀ s ∈ l, s.f1.length ≤ 30 ∧ s.f2.length ≤ 300 ∧ s.f3.length ≤ 300
  | [], n, _, s, hs => by cases hs
  | x :: l, n, h, s, hs => by
    rw [few10Go] at h
    split at h
    · exact absurd rfl h
    split at h
    · exact absurd rfl h
    split at h
    · exact absurd rfl h
    rcases List.mem_cons.1 hs with rfl | hs
    · omega
    · exact few10Go_all l _ h s hs
theorem few10_facts {l : List Sp.Nd} (h : few10 l = true) : l.length ≤ 100 ∧ ∀ s ∈ l, s.f1.length ≤ 30 ∧ s.f2.length ≤ 300 ∧ s.f3.length ≤ 300 := by
  unfold few10 at h
  split at h
  · cases h
  · rename_i n hn
    simp only [Bool.and_eq_true, decide_eq_true_eq] at h
    rw [List.take_of_length_le (by omega)] at hn
    exact ⟨h.1, few10Go_all l 0 (by rw [hn]; simp)⟩
theorem few10_wf {l : List Sp.Nd} (h : few10 l = true) (hq : ∀ x ∈ l, qN x) : ∀ x ∈ l, wfN x := fun x hx => by
  obtain ⟨h1, h2, h3⟩ := (few10_facts h).2 x hx
  exact ⟨(hq x hx).k, (hq x hx).s, (hq x hx).i, (hq x hx).d, by omega, by omega, by omega⟩
theorem few18_facts {w : List Sp.Ob} (h : few18 w = true) (hq : ∀ o ∈ w, qO o) : w.length ≤ 20 ∧ ∀ o ∈ w, wfO o := by
  unfold few18 at h
  rw [Bool.and_eq_true, decide_eq_true_eq] at h
  obtain ⟨h1, h2⟩ := h
  rw [List.take_of_length_le (by omega), List.all_eq_true] at h1
  refine ⟨h2, fun o ho => ?_⟩
  have h3 := h1 o ho
  unfold fewO at h3
  rw [Bool.and_eq_true, Bool.and_eq_true, decide_eq_true_eq] at h3
  obtain ⟨h4, h5, h6⟩ := h3
  have a1 := few10_facts h4
  have a2 := few16_facts h5
  exact ⟨(hq o ho).k, by omega, by omega, few10_wf h4 (hq o ho).a, by omega, fun x hx => by have := a2.2 x hx; omega⟩
theorem few18_q (w : List Sp.Ob) (hl : w.length ≤ 140737488351232) (hq : ∀ o ∈ w, qO o) : Den Tryz.prog 15 [.ro (w.map eO)] [] (.bool (few18 w)) [] [] :=
  few18_den w hl (fun o ho => ⟨(hq o ho).la, (hq o ho).ll⟩)
end Go.Proofs.YtfdeheodjkpkkaaGreatDoor.V
namespace Go.Proofs.YtfdeheodjkpkkaaGreatDoor.V
open Go Go.RowKit Go.Proofs Go.Proofs.Ev Go.Proofs.YtfdeheodjkpkkaaGreatDoor Go.Proofs.YtfdeheodjkpkkaaGreatDoor.Sp Go.Proofs.YtfdeheodjkpkkaaGreatDoor.Ba
set_option maxHeartbeats 4000000
set_option maxRecDepth 100000
set_option linter.unusedSimpArgs false
set_option linter.unusedVariables false
set_option linter.unusedSectionVars false
theorem slice_one {α β : Type} (f : α → β) {l : List α} {k : Nat} {x : α} (h : l[k]? = some x) : ((l.map f).take (k + 1)).drop k = [f x] := by
  have hk : k < l.length := (List.getElem?_eq_some_iff.1 h).1
  rw [List.take_add_one, List.getElem?_map, h, List.drop_append_of_le_length (by simp; omega), List.drop_take_self]
  rfl
theorem spaceOnes_go (small18 : Den Tryz.prog 14 [] [] (.bool true) [] []) (w : List Sp.Ob) (hl : w.length ≤ 140737488351232) (hq : ∀ o ∈ w, qO o) : Den Tryz.prog 6 [.ro (w.map eO)] [] (.bool true) [] [] := by
  have hF := few18_q w hl hq
  cases hfew : few18 w with
  | false =>
    rw [hfew] at hF
    clear hfew hq
    (refine den_walk mix Tryz.func6 rfl (by kernel_rfl) rfl [.tmp 2] rfl (by simp) ?_; simp only [bodyOf, Tryz.f6])
    (repeat refine stp ?_)
    (refine RC (small18) ?_)
    (repeat refine stp ?_)
    (refine RC (hF) ?_)
    (repeat refine stp ?_)
    exact FE
  | true =>
    rw [hfew] at hF
    obtain ⟨hl2, hw⟩ := few18_facts hfew hq
    have hR := right_sp w (by omega) hw
    have hRi : ∀ o ∈ w, rightS w = true → oneB o = true := fun o ho h => rightS_each h o ho
    generalize rightS w = rb at *
    clear hfew hq hl
    (refine den_walk mix Tryz.func6 rfl (by kernel_rfl) rfl [.tmp 2] rfl (by simp) ?_; simp only [bodyOf, Tryz.f6])
    (repeat refine stp ?_)
    (refine RC (small18) ?_)
    (repeat refine stp ?_)
    (refine RC (hF) ?_)
    (repeat refine stp ?_)
    (refine RC (hR) ?_)
    (repeat refine stp ?_)
    clear hR hF
    refine Run_loop (fun m σ => ∃ (k : Nat), σ.t 0 = .ro (w.map eO) ∧ σ.t 3 = .bool true ∧ σ.t 5 = .bool rb ∧ σ.t 6 = .int .i64 k ∧ m = w.length - k ∧ k ≤ w.length) w.length ?_ ?_
    · exact ⟨0, rd, rd, rd, rd, rfl, by omega⟩
    rintro m σ ⟨k, g0, g3, g5, g6, rfl, hk⟩
    by_cases hk1 : k < w.length
    · obtain ⟨x, hx⟩ : ∃ x, w[k]? = some x := ⟨_, List.getElem?_eq_getElem hk1⟩
      have hD := one_den x (hw x (List.mem_of_getElem? hx))
      have hR := right_sp [x] (by simp) (fun o ho => by simp at ho; rw [ho]; exact hw x (List.mem_of_getElem? hx))
      have hi := hRi x (List.mem_of_getElem? hx)
      rw [rightS_one] at hR
      have hs := slice_one eO hx
      clear hw hRi
      generalize oneB x = ob at *
      have hr : (rb && !ob) = false := by cases rb <;> cases ob <;> simp_all
      clear hi
      cases rb with
      | false =>
        (repeat refine stp ?_)
        (refine RC (hD) ?_)
        (repeat refine stp ?_)
        (refine RC (hR) ?_)
        (repeat refine stp ?_)
        exact ⟨_, by omega, k + 1, rd, rd, rd, rd, rfl, by omega⟩
      | true =>
        have : ob = true := by simpa using hr
        subst this
        clear hr
        (repeat refine stp ?_)
        (refine RC (hD) ?_)
        (repeat refine stp ?_)
        (refine RC (hR) ?_)
        (repeat refine stp ?_)
        exact ⟨_, by omega, k + 1, rd, rd, rd, rd, rfl, by omega⟩
    · have hke : k = w.length := by omega
      subst hke
      clear hw hRi
      (repeat refine stp ?_)
      exact FE
end Go.Proofs.YtfdeheodjkpkkaaGreatDoor.V
namespace Go.Proofs.YtfdeheodjkpkkaaGreatDoor.V
open Go Go.RowKit Go.Proofs Go.Proofs.Ev Go.Proofs.YtfdeheodjkpkkaaGreatDoor Go.Proofs.YtfdeheodjkpkkaaGreatDoor.Sp Go.Proofs.YtfdeheodjkpkkaaGreatDoor.Ba
set_option maxHeartbeats 4000000
set_option maxRecDepth 100000
set_option linter.unusedSimpArgs false
set_option linter.unusedVariables false
set_option linter.unusedSectionVars false
abbrev sN (k n : Int) : Sp.Nd := ⟨k, [], [n], []⟩
abbrev sA : Sp.Ob := ⟨1, ⟨#[65]⟩, [sN 2 3], []⟩
abbrev sF : Sp.Ob := ⟨2, ⟨#[70]⟩, [], [⟨#[70, 32, 88]⟩]⟩
abbrev sS : Sp.Ob := ⟨3, ⟨#[226, 142, 149, 73, 79]⟩, [sN 2 1], []⟩
abbrev sT : Sp.Ob := ⟨3, ⟨#[226, 142, 149, 73, 79]⟩, [sN 1 1], []⟩
abbrev sG : Sp.Ob := ⟨2, ⟨#[71]⟩, [], [⟨#[70, 32, 88]⟩]⟩
abbrev sZ : Sp.Ob := ⟨0, ⟨#[]⟩, [], []⟩
theorem iS (n : Int) (h : -100 ≤ n ∧ n ≤ 100) : I n := by unfold I; omega
theorem wf_sN (k n : Int) (hk : -100 ≤ k ∧ k ≤ 100) (hn : -100 ≤ n ∧ n ≤ 100) : wfN (sN k n) := ⟨iS k hk, by simp, by intro x hx; simp at hx; rw [hx]; exact iS n hn, by simp, by simp, by simp, by simp⟩
theorem wf_sA : wfO sA := ⟨iS _ (by decide), by decide, by decide, by intro x hx; simp at hx; rw [hx]; exact wf_sN _ _ (by decide) (by decide), by decide, by simp⟩
theorem wf_sF : wfO sF := ⟨iS _ (by decide), by decide, by decide, by simp, by decide, by intro x hx; simp at hx; rw [hx]; decide⟩
theorem wf_sS : wfO sS := ⟨iS _ (by decide), by decide, by decide, by intro x hx; simp at hx; rw [hx]; exact wf_sN _ _ (by decide) (by decide), by decide, by simp⟩
theorem wf_sT : wfO sT := ⟨iS _ (by decide), by decide, by decide, by intro x hx; simp at hx; rw [hx]; exact wf_sN _ _ (by decide) (by decide), by decide, by simp⟩
theorem wf_sG : wfO sG := ⟨iS _ (by decide), by decide, by decide, by simp, by decide, by intro x hx; simp at hx; rw [hx]; decide⟩
theorem wf_sZ : wfO sZ := ⟨iS _ (by decide), by decide, by decide, by simp, by decide, by simp⟩
theorem ok_sN (k n : Int) (h : items (sN k n) = 1) (hk : k ≠ 5) : (Fo.node (sN k n) .nil .nil).ok := ⟨by rw [h]; decide, fun e => absurd e hk, fun _ => rfl, trivial, trivial⟩
theorem make_sN (k n : Int) (h : items (sN k n) = 1) (hk : k ≠ 5) : makeL [sN k n] = (form (sN k n) .nil, true) := by
  refine makeL_of (sN k n) .nil (ok_sN k n h hk) ?_ ?_
  · show items (sN k n) + 0 + 0 ≤ 1048576
    rw [h]; decide
  · show max (0 + 1) 0 ≤ 16
    decide
theorem make_23 : makeL [sN 2 3] = ([sN 2 3], true) := by rw [make_sN 2 3 (by decide +kernel) (by decide)]; exact congrArg (·, true) (by kernel_rfl : form (sN 2 3) .nil = [sN 2 3])
theorem make_21 : makeL [sN 2 1] = ([sN 1 1], true) := by rw [make_sN 2 1 (by decide +kernel) (by decide)]; exact congrArg (·, true) (by kernel_rfl : form (sN 2 1) .nil = [sN 1 1])
theorem make_11 : makeL [sN 1 1] = ([sN 1 1], true) := by rw [make_sN 1 1 (by decide +kernel) (by decide)]; exact congrArg (·, true) (by kernel_rfl : form (sN 1 1) .nil = [sN 1 1])
theorem tight_23 : tightR [sN 2 3] = true := tightR_iff.2 make_23
theorem tight_11 : tightR [sN 1 1] = true := tightR_iff.2 make_11
theorem tight_21 : tightR [sN 2 1] = false := by
  cases h : tightR [sN 2 1] with
  | false => rfl
  | true =>
    have h1 := tightR_iff.1 h
    rw [make_21] at h1
    simp at h1
theorem one_sA : oneB sA = true := by
  unfold oneB
  rw [if_pos rfl, tight_23]
  decide +kernel
theorem one_sF : oneB sF = true := by
  unfold oneB
  rw [if_neg (by decide), if_pos rfl]
  decide +kernel
theorem one_sG : oneB sG = false := by
  unfold oneB
  rw [if_neg (by decide), if_pos rfl]
  decide +kernel
theorem one_sS : oneB sS = false := by
  unfold oneB sysB
  rw [if_neg (by decide), if_neg (by decide), if_pos rfl, tight_21]
  rfl
theorem one_sT : oneB sT = true := by
  unfold oneB sysB
  rw [if_neg (by decide), if_neg (by decide), if_pos rfl, tight_11]
  decide +kernel
theorem one_sZ : oneB sZ = false := by
  unfold oneB
  rw [if_neg (by decide), if_neg (by decide), if_neg (by decide)]
theorem right_3 (x y z : Sp.Ob) : rightS [x, y, z] = (oneB x && (oneB y && nlt x y && (oneB z && nlt y z))) := by
  unfold rightS rightGo rightGo rightGo rightGo
  rw [stepS_some, stepS_some, stepS]
  simp
theorem right_2 (x y : Sp.Ob) : rightS [x, y] = (oneB x && (oneB y && nlt x y)) := by
  unfold rightS rightGo rightGo rightGo
  rw [stepS_some, stepS]
  simp
theorem right_s : rightS [sA, sF, sS] = false := by rw [right_3, one_sS]; simp
theorem right_t : rightS [sA, sF, sT] = true := by
  rw [right_3, one_sA, one_sF, one_sT]
  decide +kernel
theorem right_fa : rightS [sF, sA] = false := by
  rw [right_2, one_sA, one_sF]
  decide +kernel
theorem right_aa : rightS [sA, sA] = false := by
  rw [right_2, one_sA]
  decide +kernel
theorem tight_s : tightS [sA, sF, sS] = ([sA, sF, sT], true) := by
  have h1 : okO sA = true := by unfold okO; rw [make_23]; rfl
  have h2 : okO sF = true := by unfold okO; rfl
  have h3 : okO sS = true := by unfold okO; rw [make_21]; rfl
  have t1 : tightO sA = sA := by unfold tightO; rw [if_neg (by decide), make_23]
  have t2 : tightO sF = sF := by unfold tightO; rw [if_pos rfl]
  have t3 : tightO sS = sT := by unfold tightO; rw [if_neg (by decide), make_21]
  unfold tightS
  rw [if_neg (by simp [h1, h2, h3])]
  simp only [List.map_cons, List.map_nil, t1, t2, t3]
  rw [right_t, if_neg (by decide)]
theorem meas_s : measS [sA, sF, sS] = (0, 1, 2) := by decide +kernel
theorem same_s1 : same pO [sA, sF] [sA, sF] = true := by decide +kernel
theorem same_s2 : same pO [sA, sF, sT] [sA, sF, sS] = false := by decide +kernel
end Go.Proofs.YtfdeheodjkpkkaaGreatDoor.V
namespace Go.Proofs.YtfdeheodjkpkkaaGreatDoor.V
open Go Go.RowKit Go.Proofs Go.Proofs.Ev Go.Proofs.YtfdeheodjkpkkaaGreatDoor Go.Proofs.YtfdeheodjkpkkaaGreatDoor.Sp Go.Proofs.YtfdeheodjkpkkaaGreatDoor.Ba
set_option maxHeartbeats 8000000
set_option maxRecDepth 100000
set_option linter.unusedSimpArgs false
set_option linter.unusedVariables false
set_option linter.unusedSectionVars false
abbrev rA : List PV := [.int .i64 1, .str ⟨#[65]⟩, .ro [[.int .i64 2, .ro [], .ro [[.int .i64 3]], .ro []]], .ro []]
abbrev rF : List PV := [.int .i64 2, .str ⟨#[70]⟩, .ro [], .ro [[.str ⟨#[70, 32, 88]⟩]]]
abbrev rS : List PV := [.int .i64 3, .str ⟨#[226, 142, 149, 73, 79]⟩, .ro [[.int .i64 2, .ro [], .ro [[.int .i64 1]], .ro []]], .ro []]
abbrev rT : List PV := [.int .i64 3, .str ⟨#[226, 142, 149, 73, 79]⟩, .ro [[.int .i64 1, .ro [], .ro [[.int .i64 1]], .ro []]], .ro []]
abbrev rG : List PV := [.int .i64 2, .str ⟨#[71]⟩, .ro [], .ro [[.str ⟨#[70, 32, 88]⟩]]]
theorem small18 : Den Tryz.prog 14 [] [] (.bool true) [] [] := by
  have w3 : ∀ o ∈ [sA, sF, sS], wfO o := by intro o ho; simp only [List.mem_cons, List.not_mem_nil, or_false] at ho; rcases ho with rfl | rfl | rfl <;> first | exact wf_sA | exact wf_sF | exact wf_sS
  have w4 : ∀ o ∈ [sA, sF, sT], wfO o := by intro o ho; simp only [List.mem_cons, List.not_mem_nil, or_false] at ho; rcases ho with rfl | rfl | rfl <;> first | exact wf_sA | exact wf_sF | exact wf_sT
  have w2 : ∀ o ∈ [sA, sF], wfO o := fun o ho => w3 o (by simp only [List.mem_cons, List.not_mem_nil, or_false] at ho ⊢; rcases ho with rfl | rfl <;> simp)
  have wa : ∀ o ∈ [sA, sA], wfO o := fun o ho => w2 o (by simp only [List.mem_cons, List.not_mem_nil, or_false] at ho ⊢; rcases ho with rfl | rfl <;> simp)
  have wf : ∀ o ∈ [sF, sA], wfO o := fun o ho => w2 o (by simp only [List.mem_cons, List.not_mem_nil, or_false] at ho ⊢; rcases ho with rfl | rfl <;> simp)
  have hT := tight_sp [sA, sF, sS] (by simp) w3
  have hL := loose_sp [sA, sF, sS] (by simp) w3
  have hRs := right_sp [sA, sF, sS] (by simp) w3
  have hRt := right_sp [sA, sF, sT] (by simp) w4
  have hRn := right_sp [] (by simp) (fun o h => by cases h)
  have hRf := right_sp [sF, sA] (by simp) wf
  have hRa := right_sp [sA, sA] (by simp) wa
  have hA := one_den sA wf_sA
  have hF := one_den sF wf_sF
  have hS := one_den sS wf_sS
  have hG := one_den sG wf_sG
  have hZ := one_den sZ wf_sZ
  have hM := meas_den [sA, sF, sS] (by simp) w3
  have hq1 := same_sp [sA, sF] [sA, sF] (by simp) (by simp) w2 w2
  have hq2 := same_sp [sA, sF, sT] [sA, sF, sS] (by simp) (by simp) w4 w3
  rw [tight_s] at hT hL
  rw [right_s] at hRs
  rw [right_t] at hRt
  rw [right_fa] at hRf
  rw [right_aa] at hRa
  rw [show rightS [] = true by simp [rightS, rightGo]] at hRn
  rw [one_sA] at hA
  rw [one_sF] at hF
  rw [one_sS] at hS
  rw [one_sG] at hG
  rw [one_sZ] at hZ
  rw [meas_s] at hM
  rw [same_s1] at hq1
  rw [same_s2] at hq2
  replace hRn := Den_nz (as0 := [.nils]) hRn
  clear w3 w4 w2 wa wf
  simp only [List.map_cons, List.map_nil, eO, eN, eI, eS, eD, sA, sF, sS, sT, sG, sZ, sN, List.length_cons, List.length_nil] at hT hL hRs hRt hRf hRa hA hF hS hG hZ hM hq1 hq2
  replace hZ := Den_nz (as0 := [.agg [.int .i64 0, .str ⟨#[]⟩, .nils, .nils]]) hZ
  (refine den_walk mix Tryz.func14 rfl (by kernel_rfl) rfl [.tmp 0] rfl (by simp) ?_; simp only [bodyOf, Tryz.f14])
  (repeat ((fail_if_success (show Run _ _ (.reg _ (⟨some 9, _, _, _, _, _⟩ :: _) :: _) _)); refine stp ?_))
  refine RZ (.loc 8 0) ?_
  refine R1z ?_
  (repeat ((fail_if_success (show Run _ _ (.reg _ (⟨some 11, _, _, _, _, _⟩ :: _) :: _) _)); refine stp ?_))
  refine RZ (.loc 10 0) ?_
  refine R1z ?_
  (repeat ((fail_if_success (show Run _ _ (.c (.region 2 _ _) :: _) _)); refine stp ?_))
  refine Run_gen (fun τ => ∃ v1, τ.t 1 = .ptr (.loc 1 0) v1 0 0 ∧ τ.m (.loc 1 0) = ⟨v1, some (.rows false 29 4 [rA])⟩) ⟨_, rd, rdm⟩ ?_
  rintro τ ⟨v1, g1, m1⟩
  (repeat ((fail_if_success (show Run _ _ (.reg _ (⟨some 13, _, _, _, _, _⟩ :: _) :: _) _)); refine stp ?_))
  refine RZ (.loc 12 0) ?_
  refine R1z ?_
  (repeat ((fail_if_success (show Run _ _ (.c (.region 3 _ _) :: _) _)); refine stp ?_))
  refine Run_gen (fun τ => ∃ v1 v2, τ.t 1 = .ptr (.loc 1 0) v1 0 0 ∧ τ.m (.loc 1 0) = ⟨v1, some (.rows false 29 4 [rA])⟩ ∧ τ.t 2 = .ptr (.loc 2 0) v2 0 0 ∧ τ.m (.loc 2 0) = ⟨v2, some (.rows false 29 4 [rF])⟩) ⟨_, _, rd, rdm, rd, rdm⟩ ?_
  rintro τ ⟨v1, v2, g1, m1, g2, m2⟩
  (repeat ((fail_if_success (show Run _ _ (.reg _ (⟨some 15, _, _, _, _, _⟩ :: _) :: _) _)); refine stp ?_))
  refine RZ (.loc 14 0) ?_
  refine R1z ?_
  (repeat ((fail_if_success (show Run _ _ (.reg _ (⟨some 17, _, _, _, _, _⟩ :: _) :: _) _)); refine stp ?_))
  refine RZ (.loc 16 0) ?_
  refine R1z ?_
  (repeat ((fail_if_success (show Run _ _ (.c (.region 4 _ _) :: _) _)); refine stp ?_))
  refine Run_gen (fun τ => ∃ v1 v2 v3, τ.t 1 = .ptr (.loc 1 0) v1 0 0 ∧ τ.m (.loc 1 0) = ⟨v1, some (.rows false 29 4 [rA])⟩ ∧ τ.t 2 = .ptr (.loc 2 0) v2 0 0 ∧ τ.m (.loc 2 0) = ⟨v2, some (.rows false 29 4 [rF])⟩ ∧ τ.t 3 = .ptr (.loc 3 0) v3 0 0 ∧ τ.m (.loc 3 0) = ⟨v3, some (.rows false 29 4 [rS])⟩) ⟨_, _, _, rd, rdm, rd, rdm, rd, rdm⟩ ?_
  rintro τ ⟨v1, v2, v3, g1, m1, g2, m2, g3, m3⟩
  (repeat ((fail_if_success (show Run _ _ (.reg _ (⟨some 23, _, _, _, _, _⟩ :: _) :: _) _)); refine stp ?_))
  refine RZ (.loc 21 0) ?_
  (repeat refine stp ?_)
  (refine RC (hT) ?_)
  (repeat ((fail_if_success (show Run _ _ (.c (.region 10 _ _) :: _) _)); refine stp ?_))
  refine Run_gen (fun τ => ∃ v1 v2 v3 v7, τ.t 1 = .ptr (.loc 1 0) v1 0 0 ∧ τ.m (.loc 1 0) = ⟨v1, some (.rows false 29 4 [rA])⟩ ∧ τ.t 2 = .ptr (.loc 2 0) v2 0 0 ∧ τ.m (.loc 2 0) = ⟨v2, some (.rows false 29 4 [rF])⟩ ∧ τ.t 3 = .ptr (.loc 3 0) v3 0 0 ∧ τ.m (.loc 3 0) = ⟨v3, some (.rows false 29 4 [rS])⟩ ∧ τ.t 4 = .ro [rA, rF, rS] ∧ τ.t 5 = .ro [rA, rF, rT] ∧ τ.t 6 = .bool true ∧ τ.t 7 = .ptr (.loc 7 0) v7 0 0 ∧ τ.m (.loc 7 0) = ⟨v7, some (.rows false 29 4 [rG])⟩) ⟨_, _, _, _, rd, rdm, rd, rdm, rd, rdm, rd, rd, rd, rd, rdm⟩ ?_
  rintro τ ⟨v1, v2, v3, v7, g1, m1, g2, m2, g3, m3, g4, g5, g6, g7, m7⟩
  (repeat refine stp ?_)
  (refine DC (hL) ?_)
  (repeat refine stp ?_)
  (refine DC (hRs) ?_)
  (repeat refine stp ?_)
  (refine DC (hRt) ?_)
  (repeat refine stp ?_)
  (refine DC (hRn) ?_)
  (repeat refine stp ?_)
  (refine DR (hRf) ?_)
  (repeat refine stp ?_)
  (refine DR (hRa) ?_)
  (repeat refine stp ?_)
  (refine DC (hA) ?_)
  (repeat refine stp ?_)
  (refine DC (hF) ?_)
  (repeat refine stp ?_)
  (refine DC (hS) ?_)
  (repeat refine stp ?_)
  (refine DC (hG) ?_)
  (repeat refine stp ?_)
  (refine DC (hZ) ?_)
  (repeat refine stp ?_)
  (refine DC (hq1) ?_)
  (repeat refine stp ?_)
  (refine DC (hq2) ?_)
  (repeat refine stp ?_)
  (refine DC (hM) ?_)
  (repeat refine stp ?_)
  exact FE
end Go.Proofs.YtfdeheodjkpkkaaGreatDoor.V
namespace Go.Proofs.YtfdeheodjkpkkaaGreatDoor.V
open Go Go.RowKit Go.Proofs Go.Proofs.Ev Go.Proofs.YtfdeheodjkpkkaaGreatDoor Go.Proofs.YtfdeheodjkpkkaaGreatDoor.Sp Go.Proofs.YtfdeheodjkpkkaaGreatDoor.Ba
set_option maxHeartbeats 8000000
set_option maxRecDepth 100000
set_option linter.unusedSimpArgs false
set_option linter.unusedVariables false
set_option linter.unusedSectionVars false
/-- What stands on both sides of a cut is apart. -/
def apartO (w : List Sp.Ob) (n : Nat) : Bool := decide (n = 0) || (decide (n = w.length) || (match w[n - 1]?, w[n]? with | some x, some y => nlt x y | _, _ => false))
theorem right_parts (w : List Sp.Ob) (n : Nat) (hl : w.length ≤ 4096) (hn : n ≤ w.length) : rightS w = (rightS (w.take n) && (rightS (w.drop n) && apartO w n)) := by
  have hw : w.take n ++ w.drop n = w := List.take_append_drop n w
  apply Bool.eq_iff_iff.2
  rw [Bool.and_eq_true, Bool.and_eq_true, rightS_iff, rightS_iff, rightS_iff]
  have hlt : (w.take n).length ≤ 4096 := by rw [List.length_take]; omega
  have hld : (w.drop n).length ≤ 4096 := by rw [List.length_drop]; omega
  have hone : (∀ x ∈ w, oneB x = true) ↔ (∀ x ∈ w.take n, oneB x = true) ∧ ∀ x ∈ w.drop n, oneB x = true := by
    constructor
    · exact fun h => ⟨fun x hx => h x (List.mem_of_mem_take hx), fun x hx => h x (List.mem_of_mem_drop hx)⟩
    · rintro ⟨h1, h2⟩ x hx
      rw [← hw] at hx
      rcases List.mem_append.1 hx with hx | hx
      · exact h1 x hx
      · exact h2 x hx
  have hri := rises_app (w.take n) (w.drop n)
  rw [hw] at hri
  by_cases h0 : n = 0
  · subst h0
    simp [apartO, hl, rightS_iff, rises]
  by_cases h1 : n = w.length
  · subst h1
    simp [apartO, hl, rises]
  obtain ⟨x, hx⟩ : ∃ x, w[n - 1]? = some x := ⟨_, List.getElem?_eq_getElem (by omega)⟩
  obtain ⟨y, hy⟩ : ∃ y, w[n]? = some y := ⟨_, List.getElem?_eq_getElem (by omega)⟩
  have hap : apartO w n = nlt x y := by unfold apartO; rw [decide_eq_false h0, decide_eq_false h1, hx, hy]; rfl
  have htk : w.take n = w.take (n - 1) ++ [x] := by
    have : n = n - 1 + 1 := by omega
    conv => lhs; rw [this]
    rw [List.take_add_one, hx]
    rfl
  have hdr : w.drop n = y :: w.drop (n + 1) := drop_get hy
  rw [hap]
  constructor
  · rintro ⟨_, h2, h3⟩
    obtain ⟨a1, a2⟩ := hone.1 h2
    obtain ⟨r1, r2, r3⟩ := hri.1 h3
    exact ⟨⟨hlt, a1, r1⟩, ⟨hld, a2, r2⟩, r3 x (by rw [htk]; simp) y (by rw [hdr]; simp)⟩
  · rintro ⟨⟨_, a1, r1⟩, ⟨_, a2, r2⟩, h⟩
    refine ⟨hl, hone.2 ⟨a1, a2⟩, hri.2 ⟨r1, r2, ?_⟩⟩
    rw [htk] at r1 ⊢
    rw [hdr] at r2 ⊢
    exact apart_of r1 r2 h
abbrev limR (n : Nat) (a : Int × Int × Int) : List PV := [.int .i64 0, .int .i64 n, .int .i64 a.1, .int .i64 a.2.1, .int .i64 a.2.2]
theorem spaceParts_go (small18 : Den Tryz.prog 14 [] [] (.bool true) [] []) (w : List Sp.Ob) (hl : w.length ≤ 140737488351232) (hq : ∀ o ∈ w, qO o) (k : Int) (hk : I k) : Den Tryz.prog 5 [.ro (w.map eO), .int .i64 k] [] (.bool true) [] [] := by
  have hF := few18_q w hl hq
  cases hfew : few18 w with
  | false =>
    rw [hfew] at hF
    clear hfew hq
    (refine den_walk mix Tryz.func5 rfl (by kernel_rfl) rfl [.tmp 4] rfl (by simp) ?_; simp only [bodyOf, Tryz.f5])
    (repeat refine stp ?_)
    (refine RC (small18) ?_)
    (repeat refine stp ?_)
    (refine RC (hF) ?_)
    (repeat refine stp ?_)
    exact FE
  | true =>
  rw [hfew] at hF
  obtain ⟨hl2, hw⟩ := few18_facts hfew hq
  clear hfew hq hl
  by_cases c1 : k < 0
  · clear hw
    (refine den_walk mix Tryz.func5 rfl (by kernel_rfl) rfl [.tmp 4] rfl (by simp) ?_; simp only [bodyOf, Tryz.f5])
    (repeat refine stp ?_)
    (refine RC (small18) ?_)
    (repeat refine stp ?_)
    (refine RC (hF) ?_)
    (repeat refine stp ?_)
    exact FE
  by_cases c2 : k > w.length
  · clear hw
    (refine den_walk mix Tryz.func5 rfl (by kernel_rfl) rfl [.tmp 4] rfl (by simp) ?_; simp only [bodyOf, Tryz.f5])
    (repeat refine stp ?_)
    (refine RC (small18) ?_)
    (repeat refine stp ?_)
    (refine RC (hF) ?_)
    (repeat refine stp ?_)
    exact FE
  obtain ⟨n, rfl⟩ : ∃ n : Nat, k = n := ⟨k.toNat, by omega⟩
  have hn : n ≤ w.length := by omega
  clear c1 c2 hk
  have wa : ∀ o ∈ w.take n, wfO o := fun o ho => hw o (List.mem_of_mem_take ho)
  have wb : ∀ o ∈ w.drop n, wfO o := fun o ho => hw o (List.mem_of_mem_drop ho)
  have lt : (w.take n).length = n := by rw [List.length_take]; omega
  have ld : (w.drop n).length = w.length - n := List.length_drop ..
  have hMa := meas_den (w.take n) (by omega) wa
  have hMb := meas_den (w.drop n) (by omega) wb
  have hMw := meas_den w (by omega) hw
  have hRa := right_sp (w.take n) (by omega) wa
  have hRb := right_sp (w.drop n) (by omega) wb
  have hRw := right_sp w (by omega) hw
  have hj := measS_app (w.take n) (w.drop n)
  rw [List.take_append_drop] at hj
  have ia := measS_items (w.take n)
  have ib := measS_items (w.drop n)
  have hp := right_parts w n (by omega) hn
  rw [lt] at hMa ia
  rw [ld] at hMb ib
  rw [hj] at hMw
  rw [hp] at hRw
  simp only [List.map_take, List.map_drop] at hMa hMb hRa hRb
  generalize measS (w.take n) = A at *
  generalize measS (w.drop n) = B at *
  generalize hra : rightS (w.take n) = ra at *
  generalize hrb : rightS (w.drop n) = rb at *
  clear hj hp hra hrb wa wb lt ld hw
  have htk := take_allm eO w
  have hap : apartO w n = apartO w n := rfl
  (refine den_walk mix Tryz.func5 rfl (by kernel_rfl) rfl [.tmp 4] rfl (by simp) ?_; simp only [bodyOf, Tryz.f5])
  (repeat refine stp ?_)
  (refine RC (small18) ?_)
  (repeat refine stp ?_)
  (refine RC (hF) ?_)
  (repeat refine stp ?_)
  (refine RC (hMa) ?_)
  (repeat refine stp ?_)
  (refine RC (hMb) ?_)
  (repeat refine stp ?_)
  (refine RC (hMw) ?_)
  (repeat ((fail_if_success (show Run _ _ (.c (.region 10 _ _) :: _) _)); refine stp ?_))
  refine Run_mid 1 (fun τ => ∃ v9 v10 v11, τ.t 0 = .ro (w.map eO) ∧ τ.t 5 = .bool true ∧ τ.t 7 = .ro ((w.map eO).take n) ∧ τ.t 8 = .ro ((w.map eO).drop n) ∧ τ.t 9 = .ptr (.loc 9 0) v9 0 0 ∧ τ.m (.loc 9 0) = ⟨v9, some (.rows false 39 5 [limR n A])⟩ ∧ τ.t 10 = .ptr (.loc 10 0) v10 0 0 ∧ τ.m (.loc 10 0) = ⟨v10, some (.rows false 39 5 [limR (w.length - n) B])⟩ ∧ τ.t 11 = .ptr (.loc 11 0) v11 0 0 ∧ τ.m (.loc 11 0) = ⟨v11, some (.rows false 39 5 [limR w.length (mjoin A B)])⟩ ∧ τ.t 12 = .bool (apartO w n)) ?_ ?_
  · simp only [List.take_succ_cons, List.take_zero, List.drop_succ_cons, List.drop_zero, List.cons_append, List.nil_append]
    by_cases h0 : n = 0
    · have e : apartO w n = true := by unfold apartO; rw [decide_eq_true h0]; rfl
      rw [e]
      clear e hap
      (repeat refine stp ?_)
      exact ⟨_, _, _, rd, rd, rd, rd, rd, rdm, rd, rdm, rd, rdm, rd⟩
    by_cases h1 : n = w.length
    · have e : apartO w n = true := by unfold apartO; rw [decide_eq_true h1]; simp
      rw [e]
      clear e hap
      (repeat refine stp ?_)
      exact ⟨_, _, _, rd, rd, rd, rd, rd, rdm, rd, rdm, rd, rdm, rd⟩
    obtain ⟨j, hj⟩ : ∃ j, n = j + 1 := ⟨n - 1, by omega⟩
    obtain ⟨x, hx⟩ : ∃ x, w[j]? = some x := ⟨_, List.getElem?_eq_getElem (by omega)⟩
    obtain ⟨y, hy⟩ : ∃ y, w[n]? = some y := ⟨_, List.getElem?_eq_getElem (by omega)⟩
    have e : apartO w n = Op.bytesLess x.f1.toList y.f1.toList := by
      unfold apartO
      rw [decide_eq_false h0, decide_eq_false h1, hy, show n - 1 = j by omega, hx]
      rfl
    have hnj : (n : Int) - 1 = j := by omega
    have hjl : j < w.length := by omega
    have hnl : n < w.length := by omega
    rw [e]
    clear e hap hj
    (repeat refine stp ?_)
    exact ⟨_, _, _, rd, rd, rd, rd, rd, rdm, rd, rdm, rd, rdm, rd⟩
  rintro τ ⟨v9, v10, v11, g0, g5, g7, g8, g9, m9, g10, m10, g11, m11, g12⟩
  clear hMa hMb hMw hF hap
  generalize apartO w n = ap at *
  cases ra with
  | false =>
    rw [Bool.false_and] at hRw
    (repeat refine stp ?_)
    (refine RC (hRw) ?_)
    (repeat refine stp ?_)
    (refine RC (hRa) ?_)
    (repeat refine stp ?_)
    exact FE
  | true =>
    rw [Bool.true_and] at hRw
    cases rb with
    | false =>
      rw [Bool.false_and] at hRw
      (repeat refine stp ?_)
      (refine RC (hRw) ?_)
      (repeat refine stp ?_)
      (refine RC (hRa) ?_)
      (repeat refine stp ?_)
      (refine RC (hRb) ?_)
      (repeat refine stp ?_)
      exact FE
    | true =>
      rw [Bool.true_and] at hRw
      cases ap with
      | false =>
        (repeat refine stp ?_)
        (refine RC (hRw) ?_)
        (repeat refine stp ?_)
        (refine RC (hRa) ?_)
        (repeat refine stp ?_)
        (refine RC (hRb) ?_)
        (repeat refine stp ?_)
        exact FE
      | true =>
        (repeat refine stp ?_)
        (refine RC (hRw) ?_)
        (repeat refine stp ?_)
        (refine RC (hRa) ?_)
        (repeat refine stp ?_)
        (refine RC (hRb) ?_)
        (repeat refine stp ?_)
        exact FE
end Go.Proofs.YtfdeheodjkpkkaaGreatDoor.V
namespace Go.Proofs.YtfdeheodjkpkkaaGreatDoor.V
open Go Go.RowKit Go.Proofs Go.Proofs.Ev Go.Proofs.YtfdeheodjkpkkaaGreatDoor Go.Proofs.YtfdeheodjkpkkaaGreatDoor.Sp Go.Proofs.YtfdeheodjkpkkaaGreatDoor.Ba
set_option maxHeartbeats 8000000
set_option maxRecDepth 100000
set_option linter.unusedSimpArgs false
set_option linter.unusedVariables false
set_option linter.unusedSectionVars false
theorem pO_iff (x y : Sp.Ob) : pO x y = true ↔ x = y := by
  unfold pO
  rw [Bool.and_eq_true, Bool.and_eq_true, Bool.and_eq_true, same_iff pN_iff, same_iff pS_iff, seq_iff, beq_iff_eq]
  cases x; cases y; simp
theorem drop_right {w : List Sp.Ob} {n : Nat} (h : rightS w = true) : rightS (w.take n ++ w.drop (n + 1)) = true := by
  obtain ⟨h1, h2, h3⟩ := (rightS_iff w).1 h
  have hs : (w.take n ++ w.drop (n + 1)).length ≤ w.length := by
    rw [List.length_append, List.length_take, List.length_drop]
    omega
  have hw : w.take n ++ w.drop n = w := List.take_append_drop n w
  have hri := (rises_app (w.take n) (w.drop n)).1 (by rw [hw]; exact h3)
  have hd : w.drop n = [] ∨ ∃ x, w.drop n = x :: w.drop (n + 1) := by
    cases hx : w[n]? with
    | none => left; exact List.drop_eq_nil_of_le (by rw [List.getElem?_eq_none_iff] at hx; exact hx)
    | some x => right; exact ⟨x, drop_get hx⟩
  refine (rightS_iff _).2 ⟨by omega, fun x hx => ?_, (rises_app _ _).2 ⟨hri.1, ?_, fun x hx y hy => ?_⟩⟩
  · rcases List.mem_append.1 hx with hx | hx
    · exact h2 x (List.mem_of_mem_take hx)
    · exact h2 x (List.mem_of_mem_drop hx)
  · rcases hd with e | ⟨x, e⟩
    · have : w.drop (n + 1) = [] := by
        rw [← List.drop_drop, e]
        simp
      rw [this]
      trivial
    · rw [e] at hri
      exact hri.2.1.2
  · rcases hd with e | ⟨z, e⟩
    · have : w.drop (n + 1) = [] := by
        rw [← List.drop_drop, e]
        simp
      rw [this] at hy
      cases hy
    · rw [e] at hri
      exact hri.2.2 x hx y (by simp [hy])
theorem all4 (l : List Sp.Ob) : ((l.map eO).all fun r => decide (r.length = 4) && r.all PV.sf) = true := by
  rw [List.all_eq_true]
  intro r hr
  obtain ⟨o, _, rfl⟩ := List.mem_map.1 hr
  rfl
theorem all_take4 (l : List Sp.Ob) (n : Nat) : (((l.map eO).take n).all fun r => decide (r.length = 4) && r.all PV.sf) = true := by
  rw [← List.map_take]
  exact all4 _
theorem all_drop4 (l : List Sp.Ob) (n : Nat) : (((l.map eO).drop n).all fun r => decide (r.length = 4) && r.all PV.sf) = true := by
  rw [← List.map_drop]
  exact all4 _
theorem spaceDrop_go (small18 : Den Tryz.prog 14 [] [] (.bool true) [] []) (w : List Sp.Ob) (hl : w.length ≤ 140737488351232) (hq : ∀ o ∈ w, qO o) (k : Int) (hk : I k) : Den Tryz.prog 7 [.ro (w.map eO), .int .i64 k] [] (.bool true) [] [] := by
  have hF := few18_q w hl hq
  cases hfew : few18 w with
  | false =>
    rw [hfew] at hF
    clear hfew hq
    (refine den_walk mix Tryz.func7 rfl (by kernel_rfl) rfl [.tmp 4] rfl (by simp) ?_; simp only [bodyOf, Tryz.f7])
    (repeat refine stp ?_)
    (refine RC (small18) ?_)
    (repeat refine stp ?_)
    (refine RC (hF) ?_)
    (repeat refine stp ?_)
    exact FE
  | true =>
  rw [hfew] at hF
  obtain ⟨hl2, hw⟩ := few18_facts hfew hq
  clear hfew hq hl
  by_cases c1 : k < 0
  · clear hw
    (refine den_walk mix Tryz.func7 rfl (by kernel_rfl) rfl [.tmp 4] rfl (by simp) ?_; simp only [bodyOf, Tryz.f7])
    (repeat refine stp ?_)
    (refine RC (small18) ?_)
    (repeat refine stp ?_)
    (refine RC (hF) ?_)
    (repeat refine stp ?_)
    exact FE
  by_cases c2 : k ≥ w.length
  · clear hw
    (refine den_walk mix Tryz.func7 rfl (by kernel_rfl) rfl [.tmp 4] rfl (by simp) ?_; simp only [bodyOf, Tryz.f7])
    (repeat refine stp ?_)
    (refine RC (small18) ?_)
    (repeat refine stp ?_)
    (refine RC (hF) ?_)
    (repeat refine stp ?_)
    exact FE
  obtain ⟨n, rfl⟩ : ∃ n : Nat, k = n := ⟨k.toNat, by omega⟩
  have hn : n < w.length := by omega
  clear c1 c2 hk
  have hR := right_sp w (by omega) hw
  cases hr : rightS w with
  | false =>
    rw [hr] at hR
    clear hw hr
    (refine den_walk mix Tryz.func7 rfl (by kernel_rfl) rfl [.tmp 4] rfl (by simp) ?_; simp only [bodyOf, Tryz.f7])
    (repeat refine stp ?_)
    (refine RC (small18) ?_)
    (repeat refine stp ?_)
    (refine RC (hF) ?_)
    (repeat refine stp ?_)
    (refine RC (hR) ?_)
    (repeat refine stp ?_)
    exact FE
  | true =>
  rw [hr] at hR
  obtain ⟨x, hx⟩ : ∃ x, w[n]? = some x := ⟨_, List.getElem?_eq_getElem hn⟩
  obtain ⟨V, hV⟩ : ∃ V, V = w.take n ++ w.drop (n + 1) := ⟨_, rfl⟩
  have hwV : ∀ o ∈ V, wfO o := by
    intro o ho
    rw [hV] at ho
    rcases List.mem_append.1 ho with ho | ho
    · exact hw o (List.mem_of_mem_take ho)
    · exact hw o (List.mem_of_mem_drop ho)
  have hlV : V.length = w.length - 1 := by rw [hV, List.length_append, List.length_take, List.length_drop]; omega
  have hMw := meas_den w (by omega) hw
  have hMV := meas_den V (by omega) hwV
  have hRV := right_sp V (by omega) hwV
  rw [hV, drop_right hr, ← hV] at hRV
  have hM1 := meas_den [x] (by simp) (fun o ho => by simp at ho; rw [ho]; exact hw x (List.mem_of_getElem? hx))
  have hS := same_sp V w (by omega) (by omega) hwV hw
  have hs0 : same pO V w = false := by
    cases h : same pO V w with
    | false => rfl
    | true =>
      have := congrArg List.length ((same_iff pO_iff V w).1 h)
      omega
  rw [hs0] at hS
  clear hs0
  have hsp : w = w.take n ++ ([x] ++ w.drop (n + 1)) := by
    conv => lhs; rw [← List.take_append_drop n w, drop_get hx]
    rfl
  have j1 := measS_app (w.take n) ([x] ++ w.drop (n + 1))
  rw [← hsp, measS_app [x]] at j1
  have j2 := measS_app (w.take n) (w.drop (n + 1))
  rw [← hV] at j2
  have ia := measS_items (w.take n)
  have ib := measS_items (w.drop (n + 1))
  have ix := measS_items [x]
  have na := measS_nonneg (w.take n)
  have nb := measS_nonneg (w.drop (n + 1))
  have nx := measS_nonneg [x]
  have la : (w.take n).length ≤ 20 := by rw [List.length_take]; omega
  have lb : (w.drop (n + 1)).length ≤ 20 := by rw [List.length_drop]; omega
  have lx : [x].length = 1 := rfl
  generalize measS (w.take n) = A at *
  generalize measS (w.drop (n + 1)) = B at *
  generalize measS [x] = X at *
  generalize measS w = M at *
  generalize measS V = N at *
  have hN1 : N.1 ≤ M.1 := by rw [j1, j2]; simp only [mjoin]; repeat' split <;> omega
  have hN2 : N.2.1 ≤ M.2.1 := by rw [j1, j2]; simp only [mjoin]; repeat' split <;> omega
  have hN3 : M.2.2 - X.2.2 = N.2.2 := by rw [j1, j2]; simp only [mjoin]; omega
  have hM3 : 0 ≤ M.2.2 ∧ M.2.2 ≤ 1048576 * 60 := by rw [j1]; simp only [mjoin]; omega
  have hX3 : 0 ≤ X.2.2 ∧ X.2.2 ≤ 1048576 := by omega
  clear j1 j2 ia ib ix na nb nx hsp hw hwV la lb lx hr
  have hs1 := slice_one eO hx
  have hlt : ((w.map eO).take n).length = n := by rw [List.length_take, List.length_map]; omega
  have hld : ((w.map eO).drop (n + 1)).length = w.length - (n + 1) := by rw [List.length_drop, List.length_map]
  have hat := all_take4 w n
  have had := all_drop4 w (n + 1)
  have hVm : (w.map eO).take n ++ (w.map eO).drop (n + 1) = V.map eO := by rw [hV, List.map_append, List.map_take, List.map_drop]
  have hsf := sf_eO V
  have htV := take_allm eO V
  have hlw : ((w.length : Int) - 1) = ((w.length - 1 : Nat) : Int) := by omega
  simp only [List.map_cons, List.map_nil, List.length_cons, List.length_nil] at hM1
  rw [hlV] at hMV htV
  clear hx hV
  (refine den_walk mix Tryz.func7 rfl (by kernel_rfl) rfl [.tmp 4] rfl (by simp) ?_; simp only [bodyOf, Tryz.f7])
  (repeat refine stp ?_)
  (refine RC (small18) ?_)
  (repeat refine stp ?_)
  (refine RC (hF) ?_)
  (repeat refine stp ?_)
  (refine RC (hR) ?_)
  (repeat ((fail_if_success (show Run _ _ (.c (.region 6 _ _) :: _) _)); refine stp ?_))
  clear hF hR small18
  have htt : ((w.map eO).take n).take (0 + n) = (w.map eO).take n := by rw [Nat.zero_add, List.take_take, Nat.min_self]
  have hnn : 0 + n + (w.length - (n + 1)) = w.length - 1 := by omega
  refine Run_gen (fun τ => τ.t 0 = .ro (w.map eO) ∧ τ.t 1 = .int .i64 n ∧ τ.t 5 = .bool true ∧ τ.t 7 = .own (.loc 31 0) 3 (w.length - 1) ∧ τ.m (.loc 31 0) = ⟨3, some (.rows true 29 4 (V.map eO))⟩) ⟨rd, rd, rd, rd, by rw [← hVm]; exact rdm⟩ ?_
  rintro τ ⟨g0, g1, g5, g7, gm⟩
  clear htt hnn hVm hat had hlt hld
  (repeat ((fail_if_success (show Run _ _ (.reg _ (⟨some 42, _, _, _, _, _⟩ :: _) :: _) _)); refine stp ?_))
  refine RZ (.loc 31 0) ?_
  (repeat refine stp ?_)
  (refine RC (hMw) ?_)
  (repeat refine stp ?_)
  (refine RC (hMV) ?_)
  (repeat ((fail_if_success (show Run _ _ (.c (.region 8 _ _) :: _) _)); refine stp ?_))
  refine Run_gen (fun τ => ∃ v8 v9, τ.t 0 = .ro (w.map eO) ∧ τ.t 1 = .int .i64 n ∧ τ.t 5 = .bool true ∧ τ.t 7 = .ro (V.map eO) ∧ τ.t 8 = .ptr (.loc 8 0) v8 0 0 ∧ τ.m (.loc 8 0) = ⟨v8, some (.rows false 39 5 [limR w.length M])⟩ ∧ τ.t 9 = .ptr (.loc 9 0) v9 0 0 ∧ τ.m (.loc 9 0) = ⟨v9, some (.rows false 39 5 [limR (w.length - 1) N])⟩) ⟨_, _, rd, rd, rd, rd, rd, rdm, rd, rdm⟩ ?_
  rintro τ ⟨v8, v9, g0, g1, g5, g7, g8, m8, g9, m9⟩
  clear gm hsf htV hMw hMV
  (repeat refine stp ?_)
  (refine DC (hRV) ?_)
  (repeat refine stp ?_)
  (refine DC (hM1) ?_)
  (repeat refine stp ?_)
  (refine DC (hS) ?_)
  (repeat refine stp ?_)
  exact FE
end Go.Proofs.YtfdeheodjkpkkaaGreatDoor.V
namespace Go.Proofs.YtfdeheodjkpkkaaGreatDoor.V
open Go Go.RowKit Go.Proofs Go.Proofs.Ev Go.Proofs.YtfdeheodjkpkkaaGreatDoor Go.Proofs.YtfdeheodjkpkkaaGreatDoor.Sp Go.Proofs.YtfdeheodjkpkkaaGreatDoor.Ba
set_option maxHeartbeats 8000000
set_option maxRecDepth 100000
set_option linter.unusedSimpArgs false
set_option linter.unusedVariables false
set_option linter.unusedSectionVars false
theorem one_own {o : Sp.Ob} (h1 : oneB o = true) : tightO o = o ∧ okO o = true := by
  unfold oneB at h1
  by_cases k1 : o.f0 = 1
  · rw [if_pos k1, Bool.and_eq_true, Bool.and_eq_true] at h1
    have hm := tightR_iff.1 h1.2.1
    constructor
    · unfold tightO
      rw [if_neg (by omega), hm]
    · unfold okO
      rw [hm]
      simp
  rw [if_neg k1] at h1
  by_cases k2 : o.f0 = 2
  · constructor
    · unfold tightO; rw [if_pos k2]
    · unfold okO; simp [k2]
  rw [if_neg k2] at h1
  by_cases k3 : o.f0 = 3
  · rw [if_pos k3, Bool.and_eq_true] at h1
    unfold sysB at h1
    rw [Bool.and_eq_true] at h1
    have hm := tightR_iff.1 h1.1.1
    constructor
    · unfold tightO
      rw [if_neg k2, hm]
    · unfold okO
      rw [hm]
      simp
  rw [if_neg k3] at h1
  cases h1
theorem right_own {w : List Sp.Ob} (h : rightS w = true) : tightS w = (w, true) := by
  have h1 := rightS_each h
  have hm : w.map tightO = w := by
    rw [List.map_congr_left (g := id) (fun o ho => (one_own (h1 o ho)).1)]
    simp
  unfold tightS
  rw [if_neg, hm, h, if_neg (by decide)]
  rw [List.any_eq_true]
  rintro ⟨o, ho, h2⟩
  rw [(one_own (h1 o ho)).2] at h2
  cases h2
/-- What a tight form is. -/
theorem tightS_some {w : List Sp.Ob} (h : (tightS w).2 = true) : tightS w = (w.map tightO, true) ∧ rightS (w.map tightO) = true ∧ ∀ o ∈ w, okO o = true := by
  unfold tightS at h ⊢
  by_cases c1 : w.any (fun o => !okO o) = true
  · rw [if_pos c1] at h; cases h
  rw [if_neg c1] at h ⊢
  by_cases c2 : rightS (w.map tightO) = false
  · rw [if_pos c2] at h; cases h
  rw [if_neg c2]
  refine ⟨rfl, by simpa using c2, fun o ho => ?_⟩
  cases hk : okO o with
  | true => rfl
  | false => exact absurd (List.any_eq_true.2 ⟨o, ho, by simp [hk]⟩) c1
theorem tightS_none {w : List Sp.Ob} (h : (tightS w).2 = false) : tightS w = ([], false) := by
  unfold tightS at h ⊢
  by_cases c1 : w.any (fun o => !okO o) = true
  · rw [if_pos c1]
  rw [if_neg c1] at h ⊢
  by_cases c2 : rightS (w.map tightO) = false
  · rw [if_pos c2]
  rw [if_neg c2] at h; cases h
theorem tightO_less {o : Sp.Ob} (h : wfO o) (hk : okO o = true) : rankL (tightO o).f2 ≤ rankL o.f2 ∧ depthL (tightO o).f2 ≤ depthL o.f2 ∧ itemsL (tightO o).f2 ≤ itemsL o.f2 := by
  unfold tightO
  by_cases k2 : o.f0 = 2
  · rw [if_pos k2]
    exact ⟨Int.le_refl _, Int.le_refl _, Int.le_refl _⟩
  · rw [if_neg k2]
    unfold okO at hk
    rw [decide_eq_false k2, Bool.false_or] at hk
    obtain ⟨h1, h2, h3⟩ := make_less h.a hk
    exact ⟨h3, h2, h1⟩
theorem measGo_mono : ∀ (l : List Sp.Ob) (s t : Int × Int × Int), (∀ o ∈ l, wfO o) → (∀ o ∈ l, okO o = true) → s.1 ≤ t.1 → s.2.1 ≤ t.2.1 → s.2.2 ≤ t.2.2 → (measGo (l.map tightO) s).1 ≤ (measGo l t).1 ∧ (measGo (l.map tightO) s).2.1 ≤ (measGo l t).2.1 ∧ (measGo (l.map tightO) s).2.2 ≤ (measGo l t).2.2
  | [], s, t, _, _, h1, h2, h3 => ⟨h1, h2, h3⟩
  | o :: l, s, t, hw, hk, h1, h2, h3 => by
    obtain ⟨a1, a2, a3⟩ := tightO_less (hw o (by simp)) (hk o (by simp))
    rw [List.map_cons, measGo, measGo]
    refine measGo_mono l _ _ (fun x hx => hw x (by simp [hx])) (fun x hx => hk x (by simp [hx])) ?_ ?_ ?_
    · dsimp only; split <;> split <;> omega
    · dsimp only; split <;> split <;> omega
    · dsimp only; omega
theorem spaceOnce_go (small18 : Den Tryz.prog 14 [] [] (.bool true) [] []) (w : List Sp.Ob) (hl : w.length ≤ 140737488351232) (hq : ∀ o ∈ w, qO o) : Den Tryz.prog 4 [.ro (w.map eO)] [] (.bool true) [] [] := by
  have hF := few18_q w hl hq
  cases hfew : few18 w with
  | false =>
    rw [hfew] at hF
    clear hfew hq
    (refine den_walk mix Tryz.func4 rfl (by kernel_rfl) rfl [.tmp 2] rfl (by simp) ?_; simp only [bodyOf, Tryz.f4])
    (repeat refine stp ?_)
    (refine RC (small18) ?_)
    (repeat refine stp ?_)
    (refine RC (hF) ?_)
    (repeat refine stp ?_)
    exact FE
  | true =>
  rw [hfew] at hF
  obtain ⟨hl2, hw⟩ := few18_facts hfew hq
  clear hfew hq hl
  have hT := tight_sp w (by omega) hw
  have hL := loose_sp w (by omega) hw
  have hR := right_sp w (by omega) hw
  cases ht : (tightS w).2 with
  | false =>
    have hn := tightS_none ht
    have hr : rightS w = false := by
      cases h : rightS w with
      | false => rfl
      | true => rw [right_own h] at ht; cases ht
    rw [hn] at hT hL
    rw [hr] at hR
    simp only [List.map_nil] at hT
    clear hw hn ht hr
    (refine den_walk mix Tryz.func4 rfl (by kernel_rfl) rfl [.tmp 2] rfl (by simp) ?_; simp only [bodyOf, Tryz.f4])
    (repeat refine stp ?_)
    (refine RC (small18) ?_)
    (repeat refine stp ?_)
    (refine RC (hF) ?_)
    (repeat refine stp ?_)
    (refine RC (hT) ?_)
    (repeat refine stp ?_)
    (refine RC (hR) ?_)
    (repeat refine stp ?_)
    (refine RC (hL) ?_)
    (repeat refine stp ?_)
    exact FE
  | true =>
  obtain ⟨e1, e2, e3⟩ := tightS_some ht
  obtain ⟨V, hV⟩ : ∃ V, V = w.map tightO := ⟨_, rfl⟩
  have hwV : ∀ o ∈ V, wfO o := fun o ho => by
    rw [hV] at ho
    obtain ⟨y, h1, h2⟩ := List.mem_map.1 ho
    rw [← h2]
    exact tightO_wf (hw y h1)
  have hlV : V.length = w.length := by rw [hV]; simp
  rw [← hV] at e1 e2
  rw [e1] at hT hL
  have hTV := tight_sp V (by omega) hwV
  rw [right_own e2] at hTV
  have hRV := right_sp V (by omega) hwV
  rw [e2] at hRV
  have hMw := meas_den w (by omega) hw
  have hMV := meas_den V (by omega) hwV
  have hS1 := same_sp V V (by omega) (by omega) hwV hwV
  rw [(same_iff pO_iff V V).2 rfl] at hS1
  have hS2 := same_sp w V (by omega) (by omega) hw hwV
  have hRS : rightS w = same pO w V := by
    apply Bool.eq_iff_iff.2
    rw [same_iff pO_iff]
    constructor
    · intro h
      have := right_own h
      rw [this] at e1
      exact (Prod.ext_iff.1 e1).1
    · intro h
      rw [h]
      exact e2
  rw [← hRS] at hS2
  have hm := measGo_mono w (0, 0, 0) (0, 0, 0) hw e3 (Int.le_refl _) (Int.le_refl _) (Int.le_refl _)
  rw [← hV] at hm
  change (measS V).1 ≤ (measS w).1 ∧ (measS V).2.1 ≤ (measS w).2.1 ∧ (measS V).2.2 ≤ (measS w).2.2 at hm
  obtain ⟨m1, m2, m3⟩ := hm
  rw [hlV] at hMV
  generalize measS V = N at *
  generalize measS w = M at *
  generalize rightS w = rb at *
  clear hw hwV e1 e2 e3 ht hRS hV hlV
  (refine den_walk mix Tryz.func4 rfl (by kernel_rfl) rfl [.tmp 2] rfl (by simp) ?_; simp only [bodyOf, Tryz.f4])
  (repeat refine stp ?_)
  (refine RC (small18) ?_)
  (repeat refine stp ?_)
  (refine RC (hF) ?_)
  (repeat refine stp ?_)
  (refine RC (hT) ?_)
  (repeat refine stp ?_)
  (refine RC (hTV) ?_)
  (repeat refine stp ?_)
  (refine RC (hMw) ?_)
  (repeat refine stp ?_)
  (refine RC (hMV) ?_)
  (repeat refine stp ?_)
  (refine RC (hL) ?_)
  (repeat refine stp ?_)
  (refine RC (hRV) ?_)
  (repeat refine stp ?_)
  (refine RC (hS1) ?_)
  (repeat refine stp ?_)
  (refine RC (hR) ?_)
  (repeat refine stp ?_)
  (refine RC (hS2) ?_)
  (repeat refine stp ?_)
  exact FE
end Go.Proofs.YtfdeheodjkpkkaaGreatDoor.V
namespace Go.Proofs.YtfdeheodjkpkkaaGreatDoor.V
open Go Go.RowKit Go.Proofs Go.Proofs.Ev Go.Proofs.YtfdeheodjkpkkaaGreatDoor Go.Proofs.YtfdeheodjkpkkaaGreatDoor.Sp Go.Proofs.YtfdeheodjkpkkaaGreatDoor.Ba
theorem spaceOnes_den (w : List Sp.Ob) (hl : w.length ≤ 140737488351232) (hq : ∀ o ∈ w, qO o) : Den Tryz.prog 6 [.ro (w.map eO)] [] (.bool true) [] [] := spaceOnes_go small18 w hl hq
theorem spaceParts_den (w : List Sp.Ob) (hl : w.length ≤ 140737488351232) (hq : ∀ o ∈ w, qO o) (k : Int) (hk : I k) : Den Tryz.prog 5 [.ro (w.map eO), .int .i64 k] [] (.bool true) [] [] := spaceParts_go small18 w hl hq k hk
theorem spaceDrop_den (w : List Sp.Ob) (hl : w.length ≤ 140737488351232) (hq : ∀ o ∈ w, qO o) (k : Int) (hk : I k) : Den Tryz.prog 7 [.ro (w.map eO), .int .i64 k] [] (.bool true) [] [] := spaceDrop_go small18 w hl hq k hk
theorem spaceOnce_den (w : List Sp.Ob) (hl : w.length ≤ 140737488351232) (hq : ∀ o ∈ w, qO o) : Den Tryz.prog 4 [.ro (w.map eO)] [] (.bool true) [] [] := spaceOnce_go small18 w hl hq
end Go.Proofs.YtfdeheodjkpkkaaGreatDoor.V
