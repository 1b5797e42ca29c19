/- What the laws lean on, part 6: texts of this claim, merged and cut to what is used. -/
import Derived.Test.YtfdeheodjkpkkaaGreatDoorP18HkG2
import Derived.Test.YtfdeheodjkpkkaaGreatDoorP18Sp3
import Derived.Test.YtfdeheodjkpkkaaGreatDoorP185
import Derived.Test.YtfdeheodjkpkkaaGreatDoorP181
set_option linter.unusedVariables false
set_option linter.unusedSimpArgs false
set_option linter.unusedSectionVars false
namespace Go.Proofs.YtfdeheodjkpkkaaGreatDoor.V
open Go Go.Proofs Go.Proofs.Ev Go.Proofs.YtfdeheodjkpkkaaGreatDoor Go.Proofs.YtfdeheodjkpkkaaGreatDoor.Sp Go.Proofs.YtfdeheodjkpkkaaGreatDoor.Ba
set_option maxHeartbeats 4000000
set_option maxRecDepth 100000
set_option linter.unusedSimpArgs false
set_option linter.unusedVariables false
set_option linter.unusedSectionVars false
@[go_sem] def eR (l : List Sp.Nd) : List PV := [.ro (l.map eN)]
theorem sf_eR (l : List (List Sp.Nd)) : ((l.map eR).all fun r => r.all PV.sf) = true := by
  rw [List.all_map, List.all_eq_true]
  intro x _
  rfl
open Fo in
theorem len_flat : ∀ f : Fo, f.len ≤ f.flat.length
  | nil => Nat.le_refl _
  | node n k s => by
    have := len_flat s
    simp only [len, flat, List.length_cons, List.length_append]
    omega
open Fo in
theorem kids_den (n : Sp.Nd) (f : Fo) (h : (node n f nil).ok) (ht : (node n f nil).tot ≤ 1048576) (hd : (node n f nil).dep ≤ 16) (h5 : n.f0 = 5) (hl : (n :: f.flat).length ≤ 1048576) (hw : ∀ x ∈ n :: f.flat, wfN x) :
    Den Tryz.prog 37 [.ro ((n :: f.flat).map eN)] [] (.own (.loc 0 0) 1 f.len) [.rows true 26 1 ((trees f).map eR)] [] := by
  have hR : rightL (n :: f.flat) = true := tree_right n f h ht hd
  obtain ⟨g0, g5, gn5, hk, _⟩ := h
  have htk : f.tot ≤ 1048576 := by simp only [tot] at ht; omega
  have hdk : f.dep ≤ 16 := by simp only [dep] at hd; omega
  have hlf : f.flat.length ≤ 1048575 := by simp only [List.length_cons] at hl; omega
  have hwf : ∀ x ∈ f.flat, wfN x := fun x hx => hw x (by simp [hx])
  have hfl0 := len_flat f
  have hro := len_eN f.flat
  have hf1 : f.len ≤ 1048575 := by omega
  clear g5 gn5 ht hd
  (refine den_walk mix Tryz.func37 rfl (by kernel_rfl) rfl [.tmp 2] rfl (by simp) ?_; simp only [bodyOf, Tryz.f37])
  (repeat refine stp ?_)
  (refine RC (right_arr (n :: f.flat) (by omega) hw) ?_)
  clear hw hl
  (repeat refine stp ?_)
  refine Run_loop (fun m σ => ∃ (q : Fo) (acc : List (List Sp.Nd)) (v : Nat), σ.t 0 = .ro (q.flat.map eN) ∧ σ.t 2 = .own (.loc 2 0) v acc.length ∧ σ.m (.loc 2 0) = ⟨v, some (.rows true 26 1 (acc.map eR))⟩ ∧ m = q.len ∧ acc ++ trees q = trees f ∧ acc.length + q.len = f.len ∧ q.ok ∧ q.tot ≤ 1048576 ∧ q.dep ≤ 16 ∧ q.flat.length ≤ 1048575 ∧ (∀ x ∈ q.flat, wfN x)) f.len ?_ ?_
  · exact ⟨f, [], _, by (simp only [List.map_cons, List.drop_succ_cons, List.drop_zero]; exact rd), rd, rdm, rfl, rfl, by simp, hk, htk, hdk, hlf, hwf⟩
  clear hk htk hdk hlf hwf hR hro hfl0
  rintro m σ ⟨q, acc, v, s0, s2, hm, rfl, hj, hjl, hk, htk, hdk, hlf, hwf⟩
  cases q with
  | nil =>
    simp only [trees, List.append_nil] at hj
    simp only [len, Nat.add_zero] at hjl
    simp only [flat, List.map_nil] at s0
    rw [← hjl, ← hj]
    clear hj hjl
    have hsf := sf_eR acc
    (repeat refine stp ?_)
    exact FN (.loc 2 0)
  | node x y s =>
    have hT := take_first x y s hk htk hdk
    have hS := tot_nonneg s hk.2.2.2.2
    have hY := tot_nonneg y hk.2.2.2.1
    have hfl : (node x y s).flat = (x :: y.flat) ++ s.flat := by simp [flat]
    have hln : (node x y s).flat.length = (x :: y.flat).length + s.flat.length := by rw [hfl, List.length_append]
    have hwt : ∀ z ∈ x :: y.flat, wfN z := fun z hz => hwf z (by rw [hfl]; exact List.mem_append.2 (.inl hz))
    have hws : ∀ z ∈ s.flat, wfN z := fun z hz => hwf z (by rw [hfl]; simp [hz])
    have hC := take_den (node x y s).flat (by omega) hwf
    rw [hT] at hC
    have hCopy := copy_arr (x :: y.flat) (by omega) hwt
    have htake : ((node x y s).flat.map eN).take (x :: y.flat).length = (x :: y.flat).map eN := by rw [hfl, List.map_append, List.take_left' (by simp)]
    have hdrop : ((node x y s).flat.map eN).drop (x :: y.flat).length = s.flat.map eN := by rw [hfl, List.map_append, List.drop_left' (by simp)]
    have hpos : 0 < (node x y s).flat.length := by rw [hln, List.length_cons]; omega
    have hacc := take_allm eR acc
    have hro := len_eN (node x y s).flat
    generalize hA : x :: y.flat = A at *
    generalize hB : (node x y s).flat = B at *
    have hjl2 : acc.length + (s.len + 1) = f.len := by rw [← hjl]; rfl
    have hle : acc.length ≤ 1048576 := by omega
    have hAB : A.length ≤ B.length := by omega
    have hsB : s.flat.length ≤ 1048575 := by omega
    clear hfl hln hT hwf hwt
    replace hj := Asd.mk hj
    (repeat refine stp ?_)
    (refine RC (hC) ?_)
    (repeat refine stp ?_)
    (refine DC (hCopy) ?_)
    (repeat refine stp ?_)
    refine ⟨s.len, ?_, s, acc ++ [A], v + 1, ?_, ?_, ?_, rfl, ?_, ?_, hk.2.2.2.2, ?_, ?_, ?_, hws⟩
    · simp only [len]; omega
    · exact rd
    · simp only [List.length_append, List.length_cons, List.length_nil, Nat.zero_add]; exact rd
    · simp only [List.map_append, List.map_cons, List.map_nil]; exact rdm
    · rw [← hj.out]; simp [trees, hA]
    · simp only [List.length_append, List.length_cons, List.length_nil]; omega
    · simp only [tot] at htk; have := hk.1; omega
    · simp only [dep] at hdk; omega
    · omega
end Go.Proofs.YtfdeheodjkpkkaaGreatDoor.V
namespace Go.Proofs.YtfdeheodjkpkkaaGreatDoor.V
open Go Go.Proofs Go.Proofs.Ev Go.Proofs.YtfdeheodjkpkkaaGreatDoor Go.Proofs.YtfdeheodjkpkkaaGreatDoor.Sp Go.Proofs.YtfdeheodjkpkkaaGreatDoor.Ba
set_option maxHeartbeats 4000000
set_option maxRecDepth 100000
set_option linter.unusedSimpArgs false
set_option linter.unusedVariables false
set_option linter.unusedSectionVars false
theorem grow_den (n : Nat) (hn : n * 80 ≤ 140737488355328) : Den Tryz.prog 212 [.nils, .int .i64 n] [] (.own (.loc 0 0) 1 0) [.rows true 37 4 []] [] :=
  den_of_own0 (us := [.slice none 0 0, .int .i64 n]) (by decide) rfl (fun w hT => All.grow_own n w hn)
theorem fl_step {α : Type} {ks : List (List α)} {k : Nat} {x : List α} (h : ks[k]? = some x) : (ks.take (k + 1)).flatten = (ks.take k).flatten ++ x := by
  rw [List.take_add_one, h]
  simp
theorem fl_le {α : Type} (ks : List (List α)) (k : Nat) : (ks.take k).flatten.length ≤ ks.flatten.length := by
  have h := congrArg (fun l => (List.flatten l).length) (List.take_append_drop k ks)
  simp only [List.flatten_append, List.length_append] at h
  omega
theorem concat_den (ks : List (List Sp.Nd)) (hn : ks.length ≤ 1099511627776) (ht : ks.flatten.length ≤ 1048576) : Den Tryz.prog 171 [.ro (ks.map eR)] [] (.ro (ks.flatten.map eN)) [] [] := by
  (refine den_walk mix Tryz.func171 rfl (by kernel_rfl) rfl [.tmp 2] rfl (by simp) ?_; simp only [bodyOf, Tryz.f171])
  (repeat refine stp ?_)
  refine Run_loop (fun m σ => ∃ (k : Nat) (S : Nat), σ.t 0 = .ro (ks.map eR) ∧ σ.t 9 = .ro (ks.map eR) ∧ σ.t 10 = .int .i64 ks.length ∧ σ.t 11 = .int .i64 k ∧ σ.t 3 = .int .i64 S ∧ m = ks.length - k ∧ k ≤ ks.length ∧ (ks.take k).flatten.length = S) ks.length ?_ ?_
  · exact ⟨0, 0, rd, rd, rd, rd, rd, rfl, by omega, rfl⟩
  rintro m σ ⟨k, S, h0, h9, h10, h11, h3, rfl, hk, hS⟩
  by_cases hk1 : k < ks.length
  · obtain ⟨x, hs⟩ : ∃ x, ks[k]? = some x := ⟨_, List.getElem?_eq_getElem hk1⟩
    have h1 := fl_le ks (k + 1)
    have h2 : (ks.take (k + 1)).flatten.length = S + x.length := by rw [fl_step hs, List.length_append, hS]
    rw [h2] at h1
    replace hS := Asd.mk hS
    replace h2 := Asd.mk h2
    (repeat refine stp ?_)
    exact ⟨_, by omega, k + 1, S + x.length, rd, rd, rd, rd, rd, rfl, by omega, h2.out⟩
  · have hke : k = ks.length := by omega
    subst hke
    rw [List.take_length] at hS
    rw [hS] at ht
    clear hk1 hk
    replace hS := Asd.mk hS
    (repeat refine stp ?_)
    (refine RN (grow_den S (by omega)) ?_)
    (repeat refine stp ?_)
    refine Run_loop (fun m σ => ∃ (k : Nat) (v : Nat) (S : Nat), σ.t 25 = .ro (ks.map eR) ∧ σ.t 26 = .int .i64 ks.length ∧ σ.t 27 = .int .i64 k ∧ σ.t 6 = .own (.loc 24 0) v S ∧ σ.m (.loc 24 0) = ⟨v, some (.rows true 37 4 ((ks.take k).flatten.map eN))⟩ ∧ m = ks.length - k ∧ k ≤ ks.length ∧ (ks.take k).flatten.length = S) ks.length ?_ ?_
    · exact ⟨0, _, 0, rd, rd, rd, rd, rdm, rfl, by omega, rfl⟩
    clear h0 h9 h10 h11 h3
    rintro m σ ⟨k, v, T, h25, h26, h27, h6, hm, rfl, hk, hT⟩
    by_cases hk1 : k < ks.length
    · obtain ⟨x, hs⟩ : ∃ x, ks[k]? = some x := ⟨_, List.getElem?_eq_getElem hk1⟩
      have h1 := fl_le ks (k + 1)
      have h2 := fl_step hs
      have h3 : (ks.take (k + 1)).flatten.length = T + x.length := by rw [h2, List.length_append, hT]
      rw [h3, hS.out] at h1
      have hall := all_eN x
      have htk : (List.map eN (ks.take k).flatten).take T = List.map eN (ks.take k).flatten := by rw [← hT]; exact take_allm eN _
      have hTl : T ≤ (ks.take k).flatten.length := by omega
      replace h2 := Asd.mk h2
      replace h3 := Asd.mk h3
      replace hT := Asd.mk hT
      (repeat refine stp ?_)
      exact ⟨_, by omega, k + 1, v + 1, T + x.length, rd, rd, rd, rd, by (rw [h2.out, List.map_append]; exact rdm), rfl, by omega, h3.out⟩
    · have hke : k = ks.length := by omega
      subst hke
      rw [List.take_length] at hm hT
      have hsf := sf_eN ks.flatten
      have htk : (List.map eN ks.flatten).take T = List.map eN ks.flatten := by rw [← hT]; exact take_allm eN _
      have hTl : T ≤ ks.flatten.length := by omega
      clear hT hk1 hk
      (repeat refine stp ?_)
      exact FZ (.loc 24 0)
theorem nums_den (n : Sp.Nd) (hw : wfN n) (hd : n.f2.length ≤ 1048576) : Den Tryz.prog 172 [.agg (eN n)] [] (.ro ((numsOf n).map eD)) [] [] := by
  (refine den_walk mix Tryz.func172 rfl (by kernel_rfl) rfl [.tmp 2] rfl (by simp) ?_; simp only [bodyOf, Tryz.f172])
  by_cases h4 : n.f0 = 4
  · have e : numsOf n = n.f3 := by unfold numsOf; rw [if_pos h4]
    rw [e]
    clear e
    (repeat refine stp ?_)
    exact FE
  · have e : numsOf n = n.f2.map ofB := by unfold numsOf; rw [if_neg h4]
    rw [e]
    clear e
    (repeat refine stp ?_)
    refine Run_loop (fun m σ => ∃ (k : Nat) (v : Nat), σ.t 12 = .ro (n.f2.map eI) ∧ σ.t 13 = .int .i64 n.f2.length ∧ σ.t 14 = .int .i64 k ∧ σ.t 3 = .own (.loc 3 0) v k ∧ σ.m (.loc 3 0) = ⟨v, some (.rows true 55 2 (((n.f2.take k).map ofB).map eD))⟩ ∧ m = n.f2.length - k ∧ k ≤ n.f2.length) n.f2.length ?_ ?_
    · exact ⟨0, _, rd, rd, rd, rd, rdm, rfl, by omega⟩
    rintro m σ ⟨k, v, h12, h13, h14, h3, hm, rfl, hk⟩
    by_cases hk1 : k < n.f2.length
    · obtain ⟨x, hs⟩ : ∃ x, n.f2[k]? = some x := ⟨_, List.getElem?_eq_getElem hk1⟩
      have hx := hw.i x (List.mem_of_getElem? hs)
      have h2 : (n.f2.take (k + 1)) = n.f2.take k ++ [x] := by rw [List.take_add_one, hs]; rfl
      have hlen : ((n.f2.take k).map ofB).length = k := by simp; omega
      have htk : ((List.map ofB (n.f2.take k)).map eD).take k = (List.map ofB (n.f2.take k)).map eD := List.take_of_length_le (by simp; omega)
      have hle : k ≤ (n.f2.take k).length := by simp; omega
      replace h2 := Asd.mk h2
      clear hlen
      (repeat refine stp ?_)
      (refine RC (of_den x hx) ?_)
      (repeat refine stp ?_)
      exact ⟨_, by omega, k + 1, v + 1, rd, rd, rd, rd, by (rw [h2.out]; simp only [List.map_append, List.map_cons, List.map_nil]; exact rdm), rfl, by omega⟩
    · have hke : k = n.f2.length := by omega
      subst hke
      rw [List.take_length] at hm
      have htk : ((List.map ofB n.f2).map eD).take n.f2.length = (List.map ofB n.f2).map eD := List.take_of_length_le (by simp)
      clear hk1 hk
      (repeat refine stp ?_)
      exact FZ (.loc 3 0)
end Go.Proofs.YtfdeheodjkpkkaaGreatDoor.V
namespace Go.Proofs.YtfdeheodjkpkkaaGreatDoor.V
open Go Go.Proofs Go.Proofs.Ev Go.Proofs.YtfdeheodjkpkkaaGreatDoor Go.Proofs.YtfdeheodjkpkkaaGreatDoor.Sp Go.Proofs.YtfdeheodjkpkkaaGreatDoor.Ba
set_option maxHeartbeats 4000000
set_option maxRecDepth 100000
set_option linter.unusedSimpArgs false
set_option linter.unusedVariables false
set_option linter.unusedSectionVars false
theorem wrong_den (d : Sp.Dec) (h : wfD d) : Den Tryz.prog 86 [.agg (eD d)] [] (.bool (!rightB d)) [] [] := by
  (refine den_walk mix Tryz.func86 rfl (by kernel_rfl) rfl [.tmp 2] rfl (by simp) ?_; simp only [bodyOf, Tryz.f86])
  (repeat refine stp ?_)
  (refine RC (right_den d h) ?_)
  (repeat refine stp ?_)
  exact FE
theorem great_den (n : Int) : Den Tryz.prog 91 [.int .i64 n] [] (.bool (great n)) [] [] := by
  (refine den_walk mix Tryz.func91 rfl (by kernel_rfl) rfl [.tmp 2] rfl (by simp) ?_; simp only [bodyOf, Tryz.f91])
  (repeat refine stp ?_)
  unfold great
  exact FE
theorem numbers_den (s : List Int) (l : List Sp.Dec) (hs : s.length ≤ 1099511627776) (hl : l.length ≤ 1048576) (hw : ∀ d ∈ l, wfD d) :
    Den Tryz.prog 41 [.ro (s.map eI), .ro (l.map eD)] [] (.tup [.agg (eN (numbersL s l).1), .bool (numbersL s l).2]) [] [] := by
  have hC := count_den s hs
  have hF := containsFunc_dec l (by omega) _ [] rfl (by kernel_rfl) (fun d => !rightB d) (fun x hx => wrong_den x (hw x hx))
  have hS := clone_int s hs
  have hW := wholes_den l hl hw
  have hwl := wholeL_len l []
  have hG := containsFunc_int (wholeL l []).1 (by simp at hwl; omega) _ [] rfl (by kernel_rfl) great (fun x _ => great_den x)
  have hD := clone_dec l (by omega)
  cases hc : (cnt s).2 with
  | false =>
    have e : numbersL s l = (zN, false) := by unfold numbersL; rw [if_pos hc]
    rw [e]
    clear e hG hW
    (refine den_walk mix Tryz.func41 rfl (by kernel_rfl) rfl [.cell 4 37, .tmp 5] rfl (by simp) ?_; simp only [bodyOf, Tryz.f41])
    (repeat refine stp ?_)
    (refine RC (hC) ?_)
    (repeat refine stp ?_)
    exact FE
  | true =>
    by_cases hn : (cnt s).1 = l.length
    · cases ha : l.any (fun d => !rightB d) with
      | true =>
        have e : numbersL s l = (zN, false) := by unfold numbersL; rw [if_neg (by simp [hc]), if_neg (by simp [hn]), if_pos ha]
        rw [e]
        clear e hG hW
        rw [ha] at hF
        (refine den_walk mix Tryz.func41 rfl (by kernel_rfl) rfl [.cell 4 37, .tmp 5] rfl (by simp) ?_; simp only [bodyOf, Tryz.f41])
        (repeat refine stp ?_)
        (refine RC (hC) ?_)
        (repeat refine stp ?_)
        (refine RC (hF) ?_)
        (repeat refine stp ?_)
        exact FE
      | false =>
        rw [ha] at hF
        cases hw2 : (wholeL l []).2 with
        | false =>
          have e : numbersL s l = (⟨4, s, [], l⟩, true) := by unfold numbersL; rw [if_neg (by simp [hc]), if_neg (by simp [hn]), if_neg (by simp [ha]), if_pos hw2]
          rw [e]
          clear e
          (refine den_walk mix Tryz.func41 rfl (by kernel_rfl) rfl [.cell 4 37, .tmp 5] rfl (by simp) ?_; simp only [bodyOf, Tryz.f41])
          (repeat refine stp ?_)
          (refine RC (hC) ?_)
          (repeat refine stp ?_)
          (refine RC (hF) ?_)
          (repeat refine stp ?_)
          (refine RC (hS) ?_)
          (repeat refine stp ?_)
          (refine RC (hW) ?_)
          (repeat refine stp ?_)
          (refine RC (hD) ?_)
          (repeat refine stp ?_)
          exact FE
        | true =>
          by_cases h0 : l.length > 0
          · cases hg : (wholeL l []).1.any great with
            | false =>
              have e : numbersL s l = (⟨1, s, (wholeL l []).1, []⟩, true) := by unfold numbersL; rw [if_neg (by simp [hc]), if_neg (by simp [hn]), if_neg (by simp [ha]), if_neg (by simp [hw2]), if_pos ⟨h0, hg⟩]
              rw [e]
              clear e
              rw [hg] at hG
              (refine den_walk mix Tryz.func41 rfl (by kernel_rfl) rfl [.cell 4 37, .tmp 5] rfl (by simp) ?_; simp only [bodyOf, Tryz.f41])
              (repeat refine stp ?_)
              (refine RC (hC) ?_)
              (repeat refine stp ?_)
              (refine RC (hF) ?_)
              (repeat refine stp ?_)
              (refine RC (hS) ?_)
              (repeat refine stp ?_)
              (refine RC (hW) ?_)
              (repeat refine stp ?_)
              (refine RC (hG) ?_)
              (repeat refine stp ?_)
              exact FE
            | true =>
              have e : numbersL s l = (⟨2, s, (wholeL l []).1, []⟩, true) := by unfold numbersL; rw [if_neg (by simp [hc]), if_neg (by simp [hn]), if_neg (by simp [ha]), if_neg (by simp [hw2]), if_neg (by simp [hg])]
              rw [e]
              clear e
              rw [hg] at hG
              (refine den_walk mix Tryz.func41 rfl (by kernel_rfl) rfl [.cell 4 37, .tmp 5] rfl (by simp) ?_; simp only [bodyOf, Tryz.f41])
              (repeat refine stp ?_)
              (refine RC (hC) ?_)
              (repeat refine stp ?_)
              (refine RC (hF) ?_)
              (repeat refine stp ?_)
              (refine RC (hS) ?_)
              (repeat refine stp ?_)
              (refine RC (hW) ?_)
              (repeat refine stp ?_)
              (refine RC (hG) ?_)
              (repeat refine stp ?_)
              exact FE
          · have e : numbersL s l = (⟨2, s, (wholeL l []).1, []⟩, true) := by unfold numbersL; rw [if_neg (by simp [hc]), if_neg (by simp [hn]), if_neg (by simp [ha]), if_neg (by simp [hw2]), if_neg (by simp [h0])]
            rw [e]
            clear e
            (refine den_walk mix Tryz.func41 rfl (by kernel_rfl) rfl [.cell 4 37, .tmp 5] rfl (by simp) ?_; simp only [bodyOf, Tryz.f41])
            (repeat refine stp ?_)
            (refine RC (hC) ?_)
            (repeat refine stp ?_)
            (refine RC (hF) ?_)
            (repeat refine stp ?_)
            (refine RC (hS) ?_)
            (repeat refine stp ?_)
            (refine RC (hW) ?_)
            (repeat refine stp ?_)
            exact FE
    · have e : numbersL s l = (zN, false) := by unfold numbersL; rw [if_neg (by simp [hc]), if_pos hn]
      rw [e]
      clear e hG hW
      (refine den_walk mix Tryz.func41 rfl (by kernel_rfl) rfl [.cell 4 37, .tmp 5] rfl (by simp) ?_; simp only [bodyOf, Tryz.f41])
      (repeat refine stp ?_)
      (refine RC (hC) ?_)
      (repeat refine stp ?_)
      exact FE
end Go.Proofs.YtfdeheodjkpkkaaGreatDoor.V
namespace Go.Proofs.YtfdeheodjkpkkaaGreatDoor.V
open Go Go.Proofs Go.Proofs.Ev Go.Proofs.YtfdeheodjkpkkaaGreatDoor Go.Proofs.YtfdeheodjkpkkaaGreatDoor.Sp Go.Proofs.YtfdeheodjkpkkaaGreatDoor.Ba
set_option maxHeartbeats 4000000
set_option maxRecDepth 100000
set_option linter.unusedSimpArgs false
set_option linter.unusedVariables false
set_option linter.unusedSectionVars false
theorem scal {n : Sp.Nd} (h : 0 ≤ items n) (h1 : ¬ n.f1.length > 0) (h5 : n.f0 ≠ 5) : (n.f0 = 3 → n.f2.length = 1) ∧ (n.f0 ≠ 3 → (numsOf n).length = 1) := by
  have h1' : n.f1 = [] := List.eq_nil_of_length_eq_zero (by omega)
  obtain ⟨w1, w2, ⟨i, d, w3, w4, w5⟩, _, _⟩ := wants_nonneg h
  have hc : (cnt n.f1).1 = 1 := by rw [h1']; rfl
  refine ⟨fun h3 => ?_, fun h3 => ?_⟩
  · rw [hc] at w3
    unfold wants at w3
    rw [if_pos (by omega)] at w3
    cases w3
    omega
  · have := (numsOf_good h h3 h5).1
    rw [w2, hc] at this
    omega
/-- The signs' row, as it lies: none yet, or its own. -/
def XOK (σ : St) (X : PV) (cs : List Int) : Prop := (X = .nils ∧ cs = []) ∨ ∃ v, X = .own (.loc 46 0) v cs.length ∧ σ.m (.loc 46 0) = ⟨v, some (.rows true 3 1 (cs.map eI))⟩
theorem joined_den (s : List Int) (ks : List (List Sp.Nd)) (hs : s.length ≤ 1099511627776) (hk : ks.length ≤ 1048576) (hne : ∀ k ∈ ks, ∃ n l, k = n :: l ∧ wfN n ∧ 0 ≤ items n) :
    Den Tryz.prog 170 [.ro (s.map eI), .ro (ks.map eR)] [] (.tup [.agg (eN (joinL s (ks.map fun x => x.headD zN)).1), .bool (joinL s (ks.map fun x => x.headD zN)).2]) [] [] := by
  have hS := clone_int s hs
  (refine den_walk mix Tryz.func170 rfl (by kernel_rfl) rfl [.cell 4 37, .tmp 5] rfl (by simp) ?_; simp only [bodyOf, Tryz.f170])
  (repeat refine stp ?_)
  (refine RC (hS) ?_)
  (repeat refine stp ?_)
  refine Run_loop (fun m σ => ∃ (k : Nat) (cs : List Int) (ds : List Sp.Dec) (X : PV) (v4 v6 v7 : Nat), σ.t 0 = .ro (s.map eI) ∧ σ.t 1 = .ro (ks.map eR) ∧ σ.t 14 = .ro (ks.map eR) ∧ σ.t 15 = .int .i64 ks.length ∧ σ.t 16 = .int .i64 k ∧ σ.t 4 = .ptr (.loc 4 0) v4 0 0 ∧ σ.m (.loc 4 0) = ⟨v4, some (.rows false 37 4 [[.int .i64 0, .nils, .nils, .nils]])⟩ ∧
    σ.t 6 = .ptr (.loc 6 0) v6 0 0 ∧ σ.m (.loc 6 0) = ⟨v6, some (.rows false 37 4 [[.int .i64 3, .ro (s.map eI), X, .nils]])⟩ ∧ σ.t 7 = .own (.loc 7 0) v7 ds.length ∧ σ.m (.loc 7 0) = ⟨v7, some (.rows true 55 2 (ds.map eD))⟩ ∧ XOK σ X cs ∧
    m = ks.length - k ∧ k ≤ ks.length ∧ joinGo s ks.length ((ks.drop k).map fun x => x.headD zN) cs ds = joinL s (ks.map fun x => x.headD zN) ∧ cs.length + ds.length ≤ k ∧ (∀ d ∈ ds, wfD d)) ks.length ?_ ?_
  · exact ⟨0, [], [], .nils, _, _, _, rd, rd, rd, rd, rd, rd, rdm, rd, rdm, rd, rdm, .inl ⟨rfl, rfl⟩, rfl, by omega, (by rw [List.drop_zero, joinL, List.length_map]), by simp, (fun d hd => by cases hd)⟩
  clear hS
  rintro m σ ⟨k, cs, ds, X, v4, v6, v7, h0, h1, h14, h15, h16, h4, m4, h6, m6, h7, m7, hX, rfl, hkk, hj, hl, hwd⟩
  by_cases hk1 : k < ks.length
  · obtain ⟨x, hx⟩ : ∃ x, ks[k]? = some x := ⟨_, List.getElem?_eq_getElem hk1⟩
    obtain ⟨n, tl, rfl, hwn, hin⟩ := hne x (List.mem_of_getElem? hx)
    rw [drop_get hx, List.map_cons, List.headD_cons, joinGo] at hj
    have hsc := scal hin
    have hdl := data_le hin
    have hnd := nums_den n hwn hdl.1
    have hnw := numsOf_wf hwn
    by_cases c1 : n.f1.length > 0
    · rw [if_pos (.inl c1)] at hj
      rw [← hj]
      clear hj hsc hnd
      (repeat refine stp ?_)
      exact FE
    · by_cases c5 : n.f0 = 5
      · rw [if_pos (.inr c5)] at hj
        rw [← hj]
        clear hj hsc hnd
        (repeat refine stp ?_)
        exact FE
      · rw [if_neg (by rintro (h | h) <;> contradiction)] at hj
        obtain ⟨sc3, scn⟩ := hsc c1 c5
        by_cases c3 : n.f0 = 3
        · rw [if_pos c3] at hj
          have hl2 := sc3 c3
          have hall := all_eI n.f2
          replace hj := Asd.mk hj
          rcases hX with ⟨rfl, rfl⟩ | ⟨vx, rfl, mx⟩
          · have hl' : ds.length ≤ k := by simpa using hl
            clear hl scn sc3 hnd hnw
            (repeat refine stp ?_)
            exact ⟨_, by omega, k + 1, n.f2, ds, _, v4, v6, v7, rd, rd, rd, rd, rd, rd, rdm, rd, rdm, rd, rdm, .inr ⟨_, rfl, rdm⟩, rfl, by omega, by simpa using hj.out, by omega, hwd⟩
          · have htk := take_allm eI cs
            clear scn sc3 hnd hnw
            (repeat refine stp ?_)
            exact ⟨_, by omega, k + 1, cs ++ n.f2, ds, _, v4, v6, v7, rd, rd, rd, rd, rd, rd, rdm, rd, rdm, rd, rdm, .inr ⟨vx + 1, (by rw [List.length_append, hl2]), (by rw [List.map_append]; exact rdm)⟩, rfl, by omega, hj.out, by (rw [List.length_append]; omega), hwd⟩
        · rw [if_neg c3] at hj
          have hl2 := scn c3
          have hall := all_eD (numsOf n)
          have htk := take_allm eD ds
          replace hj := Asd.mk hj
          clear sc3 scn
          (repeat refine stp ?_)
          (refine RC (hnd) ?_)
          (repeat refine stp ?_)
          refine ⟨_, ?_, k + 1, cs, ds ++ numsOf n, X, v4, v6, v7 + 1, rd, rd, rd, rd, rd, rd, rdm, rd, rdm, (by (rw [List.length_append]; exact rd)), (by (rw [List.map_append]; exact rdm)), ?_, rfl, by omega, hj.out, (by (rw [List.length_append]; omega)), ?_⟩
          · omega
          · rcases hX with ⟨e1, e2⟩ | ⟨vx, e1, mx⟩
            · exact .inl ⟨e1, e2⟩
            · exact .inr ⟨vx, e1, rdm⟩
          · intro d hd
            rcases List.mem_append.1 hd with h | h
            · exact hwd d h
            · exact hnw d h
  · have hke : k = ks.length := by omega
    subst hke
    rw [List.drop_length, List.map_nil, joinGo] at hj
    have hND := numbers_den s ds hs (by omega) hwd
    have htk := take_allm eD ds
    clear hkk hk1
    by_cases c : cs.length = ks.length ∧ ks.length > 0
    · rw [if_pos c] at hj
      rw [← hj]
      clear hj hND
      obtain ⟨cl, c0⟩ := c
      rcases hX with ⟨rfl, rfl⟩ | ⟨vx, rfl, mx⟩
      · simp at cl
        omega
      · have htc := take_allm eI cs
        have hle : ks.length ≤ cs.length := by omega
        rw [cl] at htc m6
        replace cl := Asd.mk cl
        (repeat refine stp ?_)
        exact FZ (.loc 46 0)
    · rw [if_neg c] at hj
      rw [← hj]
      clear hj
      rcases hX with ⟨rfl, rfl⟩ | ⟨vx, rfl, mx⟩
      · by_cases c0 : ks.length = 0
        · rw [c0] at h15 h16
          have c1 : (ks.map eR).length = 0 := by simpa using c0
          (repeat refine stp ?_)
          refine Run_gen (fun τ => τ.t 61 = .ro (s.map eI) ∧ τ.t 62 = .own (.loc 7 0) v7 ds.length ∧ τ.t 4 = .ptr (.loc 4 0) v4 0 0 ∧ τ.m (.loc 4 0) = ⟨v4, some (.rows false 37 4 [[.int .i64 0, .nils, .nils, .nils]])⟩ ∧ τ.m (.loc 7 0) = ⟨v7, some (.rows true 55 2 (ds.map eD))⟩) ⟨rd, rd, rd, rdm, rdm⟩ ?_
          clear h0 h1 h14 h15 h16 h4 m4 h6 m6 h7 m7
          rintro τ ⟨h61, h62, h4, m4, m7⟩
          refine RZ (.loc 7 0) ?_
          (repeat refine stp ?_)
          (refine RC (hND) ?_)
          (repeat refine stp ?_)
          exact FE
        · (repeat refine stp ?_)
          refine Run_gen (fun τ => τ.t 61 = .ro (s.map eI) ∧ τ.t 62 = .own (.loc 7 0) v7 ds.length ∧ τ.t 4 = .ptr (.loc 4 0) v4 0 0 ∧ τ.m (.loc 4 0) = ⟨v4, some (.rows false 37 4 [[.int .i64 0, .nils, .nils, .nils]])⟩ ∧ τ.m (.loc 7 0) = ⟨v7, some (.rows true 55 2 (ds.map eD))⟩) ⟨rd, rd, rd, rdm, rdm⟩ ?_
          clear h0 h1 h14 h15 h16 h4 m4 h6 m6 h7 m7
          rintro τ ⟨h61, h62, h4, m4, m7⟩
          refine RZ (.loc 7 0) ?_
          (repeat refine stp ?_)
          (refine RC (hND) ?_)
          (repeat refine stp ?_)
          exact FE
      · by_cases cl : cs.length = ks.length
        · have c0 : ¬ ks.length > 0 := fun h => c ⟨cl, h⟩
          have c0' : ks.length = 0 := by omega
          rw [cl, c0'] at m6
          rw [c0'] at h15 h16
          have c1 : (ks.map eR).length = 0 := by simpa using c0'
          clear c0 c
          (repeat refine stp ?_)
          refine Run_gen (fun τ => τ.t 61 = .ro (s.map eI) ∧ τ.t 62 = .own (.loc 7 0) v7 ds.length ∧ τ.t 4 = .ptr (.loc 4 0) v4 0 0 ∧ τ.m (.loc 4 0) = ⟨v4, some (.rows false 37 4 [[.int .i64 0, .nils, .nils, .nils]])⟩ ∧ τ.m (.loc 7 0) = ⟨v7, some (.rows true 55 2 (ds.map eD))⟩) ⟨rd, rd, rd, rdm, rdm⟩ ?_
          clear h0 h1 h14 h15 h16 h4 m4 h6 m6 h7 m7
          rintro τ ⟨h61, h62, h4, m4, m7⟩
          refine RZ (.loc 7 0) ?_
          (repeat refine stp ?_)
          (refine RC (hND) ?_)
          (repeat refine stp ?_)
          exact FE
        · (repeat refine stp ?_)
          refine Run_gen (fun τ => τ.t 61 = .ro (s.map eI) ∧ τ.t 62 = .own (.loc 7 0) v7 ds.length ∧ τ.t 4 = .ptr (.loc 4 0) v4 0 0 ∧ τ.m (.loc 4 0) = ⟨v4, some (.rows false 37 4 [[.int .i64 0, .nils, .nils, .nils]])⟩ ∧ τ.m (.loc 7 0) = ⟨v7, some (.rows true 55 2 (ds.map eD))⟩) ⟨rd, rd, rd, rdm, rdm⟩ ?_
          clear h0 h1 h14 h15 h16 h4 m4 h6 m6 h7 m7
          rintro τ ⟨h61, h62, h4, m4, m7⟩
          refine RZ (.loc 7 0) ?_
          (repeat refine stp ?_)
          (refine RC (hND) ?_)
          (repeat refine stp ?_)
          exact FE
end Go.Proofs.YtfdeheodjkpkkaaGreatDoor.V
namespace Go.Proofs.YtfdeheodjkpkkaaGreatDoor.V
open Go Go.Proofs Go.Proofs.Ev Go.Proofs.YtfdeheodjkpkkaaGreatDoor Go.Proofs.YtfdeheodjkpkkaaGreatDoor.Sp Go.Proofs.YtfdeheodjkpkkaaGreatDoor.Ba
set_option maxHeartbeats 4000000
set_option maxRecDepth 100000
set_option linter.unusedSimpArgs false
set_option linter.unusedVariables false
set_option linter.unusedSectionVars false
open Fo in
theorem form_den : ∀ (m : Nat) (n : Sp.Nd) (f : Fo), (n :: f.flat).length ≤ m → (node n f nil).ok → (node n f nil).tot ≤ 1048576 → (node n f nil).dep ≤ 16 → (n :: f.flat).length ≤ 1048576 → (∀ x ∈ n :: f.flat, wfN x) →
    Den Tryz.prog 114 [.ro ((n :: f.flat).map eN)] [] (.ro ((form n f).map eN)) [] []
  | 0, n, f, hm, _, _, _, _, _ => by simp at hm
  | m + 1, n, f, hm, hok, ht, hd, hl, hw => by
    have hwn := hw n (by simp)
    have hin := hok.1
    have hdl := data_le hin
    by_cases c3 : n.f0 = 3
    · have hC := copy_arr (n :: f.flat) hl hw
      have hnil : f = nil := hok.2.2.1 (by omega)
      rw [form_char_eq c3]
      subst hnil
      simp only [flat] at hC ⊢
      clear hok ht hd hw hm hl
      (refine den_walk mix Tryz.func114 rfl (by kernel_rfl) rfl [.tmp 2] rfl (by simp) ?_; simp only [bodyOf, Tryz.f114])
      (repeat refine stp ?_)
      (refine RC (hC) ?_)
      (repeat refine stp ?_)
      exact FE
    · by_cases c5 : n.f0 = 5
      · have hkids := kids_den n f hok ht hd c5 hl hw
        obtain ⟨_, h5, _, hk, _⟩ := hok
        have hkl : f.len ≤ 1048576 := ok_len hin h5 (fun h => (h c5).elim)
        have htk : f.tot ≤ 1048576 := by simp only [tot] at ht; omega
        have hdk : f.dep ≤ 16 := by simp only [dep] at hd; omega
        have hfo := form_ok f hk
        have hfw := form_wf f hk (fun x hx => hw x (by simp [hx]))
        have hfl := form_size f
        have hwf : ∀ x ∈ f.flat, wfN x := fun x hx => hw x (by simp [hx])
        have hmf : f.flat.length ≤ m := by simp only [List.length_cons] at hm; omega
        have hlf : f.flat.length ≤ 1048575 := by simp only [List.length_cons] at hl; omega
        have ih : ∀ j, j < f.len → ∃ x y, (trees f)[j]? = some x ∧ (trees (formF f))[j]? = some y ∧ Den Tryz.prog 114 [.ro (x.map eN)] [] (.ro (y.map eN)) [] [] := by
          intro j hj
          obtain ⟨n', k', a1, a2, a3, a4, a5, a6, a7⟩ := trees_at f j hk hj
          exact ⟨_, _, a1, a2, form_den m n' k' (by omega) a3 (by omega) (by omega) (by omega) (fun x hx => hwf x (a6 x hx))⟩
        have hJ := joined_den n.f1 (trees (formF f)) hwn.ls (by rw [trees_len, hfo.2.1]; exact hkl) (fun k hk' => by
          obtain ⟨j, hj⟩ := List.mem_iff_getElem?.1 hk'
          have hjl : j < (formF f).len := by rw [← trees_len]; exact (List.getElem?_eq_some_iff.1 hj).1
          obtain ⟨n', k', a1, a2, a3, a4, a5, a6, a7⟩ := trees_at (formF f) j hfo.1 hjl
          rw [hj] at a1
          cases a1
          exact ⟨n', k'.flat, rfl, hfw n' (a6 n' (by simp)), a3.1⟩)
        rw [heads_trees] at hJ
        have hCc := concat_den (trees (formF f)) (by rw [trees_len, hfo.2.1]; omega) (by rw [trees_join]; omega)
        have hS := clone_int n.f1 hwn.ls
        have hfe := form_nest_eq (k := f) c5
        have hlen1 := trees_len f
        have hlen2 : (trees (formF f)).length = f.len := by rw [trees_len, hfo.2.1]
        have hsz : (trees (formF f)).flatten.length ≤ 1048575 := by rw [trees_join]; omega
        generalize joinL n.f1 (heads (formF f)) = J at *
        generalize trees (formF f) = G at *
        generalize trees f = F at *
        replace hfe := Asd.mk hfe
        clear ht hd hw hm hl hfo hfw hfl hwf hmf hlf htk hdk hk h5
        have hro := sf_eR
        (refine den_walk mix Tryz.func114 rfl (by kernel_rfl) rfl [.tmp 2] rfl (by simp) ?_; simp only [bodyOf, Tryz.f114])
        (repeat refine stp ?_)
        (refine RN (hkids) ?_)
        (repeat refine stp ?_)
        refine Run_loop (fun m σ => ∃ (k v3 v : Nat), σ.t 25 = .int .i64 k ∧ σ.t 24 = .int .i64 f.len ∧ σ.t 3 = .ptr (.loc 3 0) v3 0 0 ∧ σ.m (.loc 3 0) = ⟨v3, some (.rows false 37 4 [eN n])⟩ ∧ σ.t 4 = .own (.loc 22 0) v f.len ∧ σ.m (.loc 22 0) = ⟨v, some (.rows true 26 1 ((G.take k ++ F.drop k).map eR))⟩ ∧ m = f.len - k ∧ k ≤ f.len) f.len ?_ ?_
        · exact ⟨0, _, _, rd, rd, rd, rdm, rd, (by (rw [List.take_zero, List.drop_zero, List.nil_append]; exact rdm)), rfl, by omega⟩
        rintro m σ ⟨k, v3, v, h25, h24, h3, m3, h4, m4, rfl, hk⟩
        by_cases hk1 : k < f.len
        · obtain ⟨x, y, hx, hy, hD⟩ := ih k hk1
          have hget : ((G.take k ++ F.drop k).map eR)[k]? = some [.ro (x.map eN)] := by
            rw [List.getElem?_map, List.getElem?_append_right (by simp; omega)]
            have : k - (G.take k).length = 0 := by simp; omega
            rw [this, drop_get hx]
            rfl
          have hset : ((G.take k ++ F.drop k).map eR).set k [.ro (y.map eN)] = (G.take (k + 1) ++ F.drop (k + 1)).map eR := by
            have e1 : G.take (k + 1) = G.take k ++ [y] := by rw [List.take_add_one, hy]; rfl
            have e2 : (G.take k).length = k := by simp; omega
            rw [e1, drop_get hx, List.map_append, List.set_append_right _ _ (by simp; omega)]
            simp only [List.length_map, e2, Nat.sub_self, List.map_append, List.map_cons, List.map_nil, List.set_cons_zero, List.append_assoc, List.cons_append, List.nil_append]
            rfl
          have hlr : (G.take k ++ F.drop k).length = f.len := by simp; omega
          generalize G.take k ++ F.drop k = R at *
          clear ih hx hy
          (repeat refine stp ?_)
          (refine RC (hD) ?_)
          (repeat refine stp ?_)
          exact ⟨_, by omega, k + 1, v3, v, rd, rd, rd, rdm, rd, rdm, rfl, by omega⟩
        · have hke : k = f.len := by omega
          subst hke
          rw [List.take_of_length_le (by omega), List.drop_of_length_le (by omega), List.append_nil] at m4
          have htk : (G.map eR).take f.len = G.map eR := by rw [← hlen2]; exact take_allm eR G
          have hle : f.len ≤ G.length := by omega
          clear hk1 hk ih
          replace hlen1 := Asd.mk hlen1
          replace hlen2 := Asd.mk hlen2
          (repeat refine stp ?_)
          refine RZ (.loc 22 0) ?_
          (repeat refine stp ?_)
          (refine RC (hJ) ?_)
          (repeat refine stp ?_)
          cases hj : J.2 with
          | true =>
            have := hfe.out
            rw [if_pos hj] at this
            rw [this]
            clear this hfe
            (repeat refine stp ?_)
            exact FZ (.loc 46 0)
          | false =>
            have := hfe.out
            rw [if_neg (by simp [hj])] at this
            rw [this]
            clear this hfe
            have hall := all_eN G.flatten
            have htf := take_allm eN G.flatten
            have h1n : 1 + G.flatten.length = G.flatten.length + 1 := Nat.add_comm _ _
            (repeat refine stp ?_)
            (refine RC (hS) ?_)
            refine R1z ?_
            (repeat refine stp ?_)
            (refine RC (hCc) ?_)
            (repeat refine stp ?_)
            exact FZ (.loc 51 0)
      · rw [form_num_eq c3 c5]
        have hN := nums_den n hwn hdl.1
        have hB := numbers_den n.f1 (numsOf n) hwn.ls (numsOf_le hin) (numsOf_wf hwn)
        have hnil : f = nil := hok.2.2.1 c5
        subst hnil
        simp only [flat]
        clear hok ht hd hw hm hl
        (refine den_walk mix Tryz.func114 rfl (by kernel_rfl) rfl [.tmp 2] rfl (by simp) ?_; simp only [bodyOf, Tryz.f114])
        (repeat refine stp ?_)
        (refine DC (hN) ?_)
        (repeat refine stp ?_)
        (refine DC (hB) ?_)
        (repeat refine stp ?_)
        exact FZ (.loc 64 0)
theorem make_den (a : List Sp.Nd) (ha : a.length ≤ 1048576) (hw : ∀ n ∈ a, wfN n) : Den Tryz.prog 55 [.ro (a.map eN)] [] (.tup [.ro ((makeL a).1.map eN), .bool (makeL a).2]) [] [] := by
  have hR := right_arr a (by omega) hw
  by_cases h : rightL a = true
  · have e : makeL a = (form (treeOf a h).1 (treeOf a h).2, true) := by unfold makeL; rw [dif_pos h]
    have hc := (right_tree h).choose_spec.choose_spec
    have hF : Den Tryz.prog 114 [.ro (a.map eN)] [] (.ro ((form (treeOf a h).1 (treeOf a h).2).map eN)) [] [] := by
      obtain ⟨c1, c2, c3, c4, _⟩ := hc
      have := form_den _ (treeOf a h).1 (treeOf a h).2 (Nat.le_refl _) c2 c3 c4 (by rw [show (treeOf a h).1 :: (treeOf a h).2.flat = a from c1.symm]; exact ha) (by rw [show (treeOf a h).1 :: (treeOf a h).2.flat = a from c1.symm]; exact hw)
      rw [show (treeOf a h).1 :: (treeOf a h).2.flat = a from c1.symm] at this
      exact this
    rw [e]
    generalize form (treeOf a h).1 (treeOf a h).2 = G at *
    clear e hc
    rw [h] at hR
    (refine den_walk mix Tryz.func55 rfl (by kernel_rfl) rfl [.tmp 2, .tmp 3] rfl (by simp) ?_; simp only [bodyOf, Tryz.f55])
    (repeat refine stp ?_)
    (refine RC (hR) ?_)
    (repeat refine stp ?_)
    (refine RC (hF) ?_)
    (repeat refine stp ?_)
    exact FE
  · have e : makeL a = ([], false) := by unfold makeL; rw [dif_neg h]
    rw [e]
    clear e
    have h' : rightL a = false := by simpa using h
    rw [h'] at hR
    (refine den_walk mix Tryz.func55 rfl (by kernel_rfl) rfl [.tmp 2, .tmp 3] rfl (by simp) ?_; simp only [bodyOf, Tryz.f55])
    (repeat refine stp ?_)
    (refine RC (hR) ?_)
    (repeat refine stp ?_)
    exact FZ (.loc 2 0)
end Go.Proofs.YtfdeheodjkpkkaaGreatDoor.V
namespace Go.Proofs.YtfdeheodjkpkkaaGreatDoor.V
open Go Go.Proofs Go.Proofs.Ev Go.Proofs.YtfdeheodjkpkkaaGreatDoor Go.Proofs.YtfdeheodjkpkkaaGreatDoor.Sp Go.Proofs.YtfdeheodjkpkkaaGreatDoor.Ba
set_option maxHeartbeats 4000000
set_option maxRecDepth 100000
set_option linter.unusedSimpArgs false
set_option linter.unusedVariables false
set_option linter.unusedSectionVars false
theorem eqBy_iff {α : Type} {p : α → α → Bool} (hp : ∀ x y, p x y = true ↔ x = y) : ∀ (a b : List α), a.length = b.length → (eqBy p a b = true ↔ a = b)
  | [], [], _ => by simp [eqBy]
  | x :: a, y :: b, h => by
    rw [eqBy, Bool.and_eq_true, hp, eqBy_iff hp a b (by simpa using h), List.cons.injEq]
  | [], _ :: _, h => by simp at h
  | _ :: _, [], h => by simp at h
theorem same_iff {α : Type} {p : α → α → Bool} (hp : ∀ x y, p x y = true ↔ x = y) (a b : List α) : same p a b = true ↔ a = b := by
  unfold same
  rw [Bool.and_eq_true, decide_eq_true_eq]
  refine ⟨fun ⟨h1, h2⟩ => (eqBy_iff hp a b h1).1 h2, fun h => ?_⟩
  subst h
  exact ⟨rfl, (eqBy_iff hp a a rfl).2 rfl⟩
theorem pI_iff (x y : Int) : pI x y = true ↔ x = y := by simp [pI]
theorem pD_iff (x y : Sp.Dec) : pD x y = true ↔ x = y := by
  cases x; cases y; simp [pD]
theorem seq_iff (x y : ByteArray) : Sp.seq x y = true ↔ x = y := by
  unfold Sp.seq
  rw [beq_iff_eq]
  refine ⟨fun h => ?_, fun h => by rw [h]⟩
  rw [Ba.toList_eq, Ba.toList_eq] at h
  exact Ba.data_inj h
theorem pS_iff (x y : ByteArray) : pS x y = true ↔ x = y := seq_iff x y
theorem pN_iff (x y : Sp.Nd) : pN x y = true ↔ x = y := by
  unfold pN
  rw [Bool.and_eq_true, Bool.and_eq_true, Bool.and_eq_true, same_iff pI_iff, same_iff pI_iff, same_iff pD_iff, beq_iff_eq]
  cases x; cases y; simp
theorem makeL_facts (a : List Sp.Nd) (hw : ∀ n ∈ a, wfN n) : (makeL a).1.length ≤ a.length ∧ ∀ n ∈ (makeL a).1, wfN n := by
  unfold makeL
  split
  · rename_i h
    obtain ⟨c1, c2, c3, c4, _⟩ := (right_tree h).choose_spec.choose_spec
    have e : (treeOf a h).1 :: (treeOf a h).2.flat = a := c1.symm
    have hf := form_flat (treeOf a h).1 (treeOf a h).2
    have hs := form_size (Fo.node (treeOf a h).1 (treeOf a h).2 .nil)
    have hwf := form_wf (Fo.node (treeOf a h).1 (treeOf a h).2 .nil) c2 (by simp only [Fo.flat, List.append_nil]; rw [e]; exact hw)
    rw [hf] at hs hwf
    refine ⟨?_, hwf⟩
    simp only [Fo.flat, List.append_nil] at hs
    rw [e] at hs
    exact hs
  · exact ⟨Nat.zero_le _, fun n hn => by cases hn⟩
theorem tight_den (a : List Sp.Nd) (ha : a.length ≤ 1048576) (hw : ∀ n ∈ a, wfN n) : Den Tryz.prog 36 [.ro (a.map eN)] [] (.bool (tightR a)) [] [] := by
  have hM := make_den a ha hw
  obtain ⟨h1, h2⟩ := makeL_facts a hw
  have hS := same_den a (makeL a).1 (by omega) (by omega) hw h2
  cases hb : (makeL a).2 with
  | false =>
    have e : tightR a = false := by unfold tightR; rw [hb]; rfl
    rw [e]
    clear e
    (refine den_walk mix Tryz.func36 rfl (by kernel_rfl) rfl [.tmp 2] rfl (by simp) ?_; simp only [bodyOf, Tryz.f36])
    (repeat refine stp ?_)
    (refine RC (hM) ?_)
    (repeat refine stp ?_)
    exact FE
  | true =>
    have e : tightR a = same pN a (makeL a).1 := by
      unfold tightR
      rw [hb, Bool.true_and]
      cases hs : same pN a (makeL a).1 with
      | true => have h := (same_iff pN_iff _ _).1 hs; simp only [← h, decide_true]
      | false =>
        have h : ¬ a = (makeL a).1 := fun h => by rw [(same_iff pN_iff _ _).2 h] at hs; cases hs
        simp only [h, decide_false]
    rw [e]
    clear e
    (refine den_walk mix Tryz.func36 rfl (by kernel_rfl) rfl [.tmp 2] rfl (by simp) ?_; simp only [bodyOf, Tryz.f36])
    (repeat refine stp ?_)
    (refine RC (hM) ?_)
    (repeat refine stp ?_)
    (refine RC (hS) ?_)
    (repeat refine stp ?_)
    exact FE
end Go.Proofs.YtfdeheodjkpkkaaGreatDoor.V
namespace Go.Proofs.YtfdeheodjkpkkaaGreatDoor.V
open Go Go.Proofs Go.Proofs.Ev Go.Proofs.YtfdeheodjkpkkaaGreatDoor Go.Proofs.YtfdeheodjkpkkaaGreatDoor.Sp Go.Proofs.YtfdeheodjkpkkaaGreatDoor.Ba
set_option maxHeartbeats 4000000
set_option maxRecDepth 100000
set_option linter.unusedSimpArgs false
set_option linter.unusedVariables false
set_option linter.unusedSectionVars false
theorem begins_den (c : Int) : Den Tryz.prog 150 [.int .i32 c] [] (.bool (beginsB c)) [] [] := by
  unfold beginsB
  (refine den_walk mix Tryz.func150 rfl (by kernel_rfl) rfl [.tmp 2] rfl (by simp) ?_; simp only [bodyOf, Tryz.f150])
  (repeat' (first | refine stp ?_ | refine RS (fun h_ => ?_) (fun h_ => ?_) | (show Run _ _ (.reg _ (_ :: _) :: _) _; refine RG (fun h_ => ?_) (fun h_ => ?_)) | fail))
  all_goals exact FE
theorem goes_den (c : Int) : Den Tryz.prog 151 [.int .i32 c] [] (.bool (goesB c)) [] [] := by
  unfold goesB
  have hB := begins_den c
  generalize beginsB c = b at *
  (refine den_walk mix Tryz.func151 rfl (by kernel_rfl) rfl [.tmp 2] rfl (by simp) ?_; simp only [bodyOf, Tryz.f151])
  (repeat refine stp ?_)
  (refine RC (hB) ?_)
  (repeat' (first | refine stp ?_ | refine RS (fun h_ => ?_) (fun h_ => ?_) | (show Run _ _ (.reg _ (_ :: _) :: _) _; refine RG (fun h_ => ?_) (fun h_ => ?_)) | fail))
  all_goals exact FE
theorem odd_den (c : Int) : Den Tryz.prog 154 [.int .i32 c] [] (.bool (oddB c)) [] [] := by
  unfold oddB
  (refine den_walk mix Tryz.func154 rfl (by kernel_rfl) rfl [.tmp 2] rfl (by simp) ?_; simp only [bodyOf, Tryz.f154])
  (repeat' (first | refine stp ?_ | refine RS (fun h_ => ?_) (fun h_ => ?_) | (show Run _ _ (.reg _ (_ :: _) :: _) _; refine RG (fun h_ => ?_) (fun h_ => ?_)) | fail))
  all_goals exact FE
theorem dec_pos (s : ByteArray) (i : Nat) : 1 ≤ (Utf8.decode s i).2 ∧ (Utf8.decode s i).2 ≤ 4 := by
  unfold Utf8.decode
  simp only
  repeat' split
  all_goals simp
theorem takeGo_end (s : ByteArray) (f p : Nat) (h : s.size ≤ p) : takeGo s f p = (s, e0) := by
  cases f with
  | zero => rfl
  | succ f => rw [takeGo, if_neg (by omega)]
theorem take_nm (s : ByteArray) (hs : s.size ≤ 1099511627776) : Den Tryz.prog 95 [.str s] [] (.tup [.str (takeN s).1, .str (takeN s).2]) [] [] := by
  (refine den_walk mix Tryz.func95 rfl (by kernel_rfl) rfl [.tmp 2, .tmp 3] rfl (by simp) ?_; simp only [bodyOf, Tryz.f95])
  (repeat refine stp ?_)
  refine Run_loop (fun m σ => ∃ (p v : Nat), σ.t 0 = .str s ∧ σ.t 7 = .it (.loc 7 0) v ∧ σ.m (.loc 7 0) = ⟨v, some (.iter s p)⟩ ∧ takeGo s m p = takeN s ∧ s.size < m + p) (s.size + 1) ?_ ?_
  · exact ⟨0, _, rd, rd, rdm, rfl, by omega⟩
  rintro m σ ⟨p, v, h0, h7, hm, hr, hf⟩
  by_cases hp : p < s.size
  · obtain ⟨g, rfl⟩ : ∃ g, m = g + 1 := ⟨m - 1, by omega⟩
    rw [takeGo, if_pos hp] at hr
    have hd := dec_pos s p
    have hB := begins_den (Utf8.decode s p).1
    have hG := goes_den (Utf8.decode s p).1
    generalize hDec : Utf8.decode s p = D at *
    by_cases hp0 : p = 0
    · cases hb : beginsB D.1 with
      | false =>
        rw [hb] at hB
        rw [if_pos ⟨hp0, hb⟩] at hr
        rw [← hr]
        subst hp0
        clear hr hb hG
        (repeat refine stp ?_)
        (refine RC (hB) ?_)
        (repeat refine stp ?_)
        exact FE
      | true =>
        rw [hb] at hB
        rw [if_neg (by simp [hb])] at hr
        subst hp0
        clear hb
        cases hg : goesB D.1 with
        | false =>
          rw [hg] at hG
          rw [if_pos hg] at hr
          rw [← hr]
          clear hr hg
          (repeat refine stp ?_)
          (refine RC (hB) ?_)
          (repeat refine stp ?_)
          (refine RC (hG) ?_)
          (repeat refine stp ?_)
          exact FE
        | true =>
          rw [hg] at hG
          rw [if_neg (by simp [hg])] at hr
          clear hg
          replace hr := Asd.mk hr
          (repeat refine stp ?_)
          (refine RC (hB) ?_)
          (repeat refine stp ?_)
          (refine RC (hG) ?_)
          (repeat refine stp ?_)
          exact ⟨g, by omega, _, _, rd, rd, rdm, hr.out, by omega⟩
    · rw [if_neg (fun h => hp0 h.1)] at hr
      have hp1 : ¬ (p : Int) = 0 := by omega
      clear hB
      cases hg : goesB D.1 with
      | false =>
        rw [hg] at hG
        rw [if_pos hg] at hr
        rw [← hr]
        clear hr hg
        (repeat refine stp ?_)
        (refine RC (hG) ?_)
        (repeat refine stp ?_)
        exact FE
      | true =>
        rw [hg] at hG
        rw [if_neg (by simp [hg])] at hr
        clear hg
        replace hr := Asd.mk hr
        (repeat refine stp ?_)
        (refine RC (hG) ?_)
        (repeat refine stp ?_)
        exact ⟨g, by omega, _, _, rd, rd, rdm, hr.out, by omega⟩
  · rw [takeGo_end s m p (by omega)] at hr
    rw [← hr]
    clear hr
    (repeat refine stp ?_)
    exact FE
theorem takeGo_le (s : ByteArray) : ∀ (f p : Nat), p ≤ s.size ∨ True → (takeGo s f p).1.size ≤ s.size ∧ (takeGo s f p).2.size ≤ s.size
  | 0, p, _ => ⟨Nat.le_refl _, Nat.zero_le _⟩
  | f + 1, p, _ => by
    unfold takeGo
    split
    · split
      · exact ⟨Nat.zero_le _, Nat.le_refl _⟩
      · split
        · simp only [ByteArray.size_extract]; omega
        · exact takeGo_le s f _ (.inr trivial)
    · exact ⟨Nat.le_refl _, Nat.zero_le _⟩
theorem takeN_le (s : ByteArray) : (takeN s).1.size ≤ s.size ∧ (takeN s).2.size ≤ s.size := takeGo_le s _ _ (.inr trivial)
theorem runes_den (s : ByteArray) (hs : s.size ≤ 1099511627776) : Den Tryz.prog 96 [.str s] [] (.int .i64 (runes s)) [] [] :=
  den_of_calls (us := [.string s]) rfl rfl (fun w hT => (Tryz.utf8_RuneCountInString s w (by omega)).mono fun e w' h => ⟨h.1, by obtain ⟨_, p, rfl⟩ := h; exact (RowKit.Below.refl _ w).alloc (Nat.le_refl _) _⟩)
theorem right_nm (s : ByteArray) (hs : s.size ≤ 1099511627776) : Den Tryz.prog 46 [.str s] [] (.bool (rightNm s)) [] [] := by
  have hT := take_nm s hs
  have hl := takeN_le s
  have hC := runes_den (takeN s).1 (by omega)
  unfold rightNm
  generalize takeN s = T at *
  cases h1 : seq T.1 e0 with
  | true =>
    (refine den_walk mix Tryz.func46 rfl (by kernel_rfl) rfl [.tmp 2] rfl (by simp) ?_; simp only [bodyOf, Tryz.f46])
    (repeat refine stp ?_)
    (refine RC (hT) ?_)
    (repeat refine stp ?_)
    exact FE
  | false =>
    cases h2 : seq T.2 e0 with
    | false =>
      (refine den_walk mix Tryz.func46 rfl (by kernel_rfl) rfl [.tmp 2] rfl (by simp) ?_; simp only [bodyOf, Tryz.f46])
      (repeat refine stp ?_)
      (refine RC (hT) ?_)
      (repeat refine stp ?_)
      exact FE
    | true =>
      (refine den_walk mix Tryz.func46 rfl (by kernel_rfl) rfl [.tmp 2] rfl (by simp) ?_; simp only [bodyOf, Tryz.f46])
      (repeat refine stp ?_)
      (refine RC (hT) ?_)
      (repeat refine stp ?_)
      (refine RC (hC) ?_)
      (repeat refine stp ?_)
      exact FE
end Go.Proofs.YtfdeheodjkpkkaaGreatDoor.V
namespace Go.Proofs.YtfdeheodjkpkkaaGreatDoor.V
open Go Go.Proofs Go.Proofs.Ev Go.Proofs.YtfdeheodjkpkkaaGreatDoor Go.Proofs.YtfdeheodjkpkkaaGreatDoor.Sp Go.Proofs.YtfdeheodjkpkkaaGreatDoor.Ba
set_option maxHeartbeats 4000000
set_option maxRecDepth 100000
set_option linter.unusedSimpArgs false
set_option linter.unusedVariables false
set_option linter.unusedSectionVars false
theorem hasP_den (s t : ByteArray) (hs : s.size ≤ 1099511627776) (ht : t.size ≤ 1099511627776) : Den Tryz.prog 160 [.str s, .str t] [] (.bool (hasP s t)) [] [] := by
  have h1 : Den Tryz.prog 202 [.str s, .str t] [] (.bool (hasP s t)) [] [] := by
    unfold hasP
    by_cases h : t.size ≤ s.size
    · rw [decide_eq_true h, Bool.true_and]
      (refine den_walk mix Tryz.func202 rfl (by kernel_rfl) rfl [.tmp 4] rfl (by simp) ?_; simp only [bodyOf, Tryz.f202])
      (repeat refine stp ?_)
      exact FE
    · rw [decide_eq_false h, Bool.false_and]
      (refine den_walk mix Tryz.func202 rfl (by kernel_rfl) rfl [.tmp 4] rfl (by simp) ?_; simp only [bodyOf, Tryz.f202])
      (repeat refine stp ?_)
      exact FE
  (refine den_walk mix Tryz.func160 rfl (by kernel_rfl) rfl [.tmp 4] rfl (by simp) ?_; simp only [bodyOf, Tryz.f160])
  (repeat refine stp ?_)
  (refine RC (h1) ?_)
  (repeat refine stp ?_)
  exact FE
theorem cutP_den (s t : ByteArray) : Den Tryz.prog 178 [.str s, .str t] [] (.tup [.str (cutP s t).1, .bool (cutP s t).2]) [] [] :=
  den_of_calls (us := [.string s, .string t]) rfl rfl (fun w hT => (Tryz.strings_CutPrefix s t w).mono fun e w' h => ⟨h.1, by rw [h.2]; exact RowKit.Below.refl _ w⟩)
theorem cutP_le (s t : ByteArray) : (cutP s t).1.size ≤ s.size := by
  unfold cutP Lib.trimPrefix
  simp only
  split
  · rw [← ByteArray.size_data, List.size_toArray, List.length_drop]
    rw [← ByteArray.size_data, ← Array.length_toList]
    omega
  · rw [← ByteArray.size_data, List.size_toArray, Array.length_toList, ByteArray.size_data]
    exact Nat.le_refl _
/-- The parser's block: what is left. -/
@[go_sem] def prC (l : ByteArray) : Cont := .rows false 147 1 [[.str l]]
theorem word_den (l : ByteArray) (hs : l.size ≤ 1099511627776) : Den Tryz.prog 156 [.ptr (.ext 0) 0 0 0] [prC l] (.str (takeN l).1) [] [prC (takeN l).2] := by
  have hT := take_nm l hs
  generalize takeN l = T at *
  (refine den_walk mix Tryz.func156 rfl (by kernel_rfl) rfl [.tmp 2] rfl (by simp) ?_; simp only [bodyOf, Tryz.f156])
  (repeat refine stp ?_)
  (refine RC (hT) ?_)
  (repeat refine stp ?_)
  exact FP
theorem skip_den (l t : ByteArray) : Den Tryz.prog 157 [.ptr (.ext 0) 0 0 0, .str t] [prC l] (.bool (cutP l t).2) [] [prC (cutP l t).1] := by
  have hT := cutP_den l t
  have hf : (cutP l t).2 = false → (cutP l t).1 = l := by
    unfold cutP Lib.trimPrefix
    intro h
    simp only at h ⊢
    rw [if_neg (by simp [h])]
  generalize cutP l t = T at *
  cases hb : T.2 with
  | true =>
    clear hf
    (refine den_walk mix Tryz.func157 rfl (by kernel_rfl) rfl [.tmp 4] rfl (by simp) ?_; simp only [bodyOf, Tryz.f157])
    (repeat refine stp ?_)
    (refine RC (hT) ?_)
    (repeat refine stp ?_)
    exact FP
  | false =>
    have hf := hf hb
    (refine den_walk mix Tryz.func157 rfl (by kernel_rfl) rfl [.tmp 4] rfl (by simp) ?_; simp only [bodyOf, Tryz.f157])
    (repeat refine stp ?_)
    (refine RC (hT) ?_)
    (repeat refine stp ?_)
    rw [hf]
    exact FP
end Go.Proofs.YtfdeheodjkpkkaaGreatDoor.V
