/- What the laws lean on, part 5: texts of this claim, merged and cut to what is used. -/
import Derived.Test.YtfdeheodjkpkkaaGreatDoorP18Sp2
import Derived.Test.YtfdeheodjkpkkaaGreatDoorP184
import Derived.Test.YtfdeheodjkpkkaaGreatDoorP181
set_option linter.unusedVariables false
set_option linter.unusedSimpArgs false
set_option linter.unusedSectionVars false
namespace Go.Proofs.YtfdeheodjkpkkaaGreatDoor.V
open Go Go.Proofs Go.Proofs.Ev Go.Proofs.YtfdeheodjkpkkaaGreatDoor Go.Proofs.YtfdeheodjkpkkaaGreatDoor.Sp Go.Proofs.YtfdeheodjkpkkaaGreatDoor.Ba
set_option maxHeartbeats 4000000
set_option maxRecDepth 100000
set_option linter.unusedSimpArgs false
set_option linter.unusedVariables false
set_option linter.unusedSectionVars false
theorem eI_take (acc : List Int) : (acc.map eI).take acc.length = acc.map eI := List.take_of_length_le (by simp)
theorem wholes_den (l : List Sp.Dec) (hn : l.length ≤ 1048576) (hw : ∀ d ∈ l, wfD d) : Den Tryz.prog 90 [.ro (l.map eD)] [] (.tup [.ro ((wholeL l []).1.map eI), .bool (wholeL l []).2]) [] [] := by
  (refine den_walk mix Tryz.func90 rfl (by kernel_rfl) rfl [.tmp 2, .tmp 3] rfl (by simp) ?_; simp only [bodyOf, Tryz.f90])
  (repeat refine stp ?_)
  refine Run_loop (fun m σ => ∃ (k : Nat) (acc : List Int) (v : Nat), σ.t 9 = .ro (l.map eD) ∧ σ.t 10 = .int .i64 l.length ∧ σ.t 11 = .int .i64 k ∧ σ.t 4 = .own (.loc 4 0) v acc.length ∧ σ.m (.loc 4 0) = ⟨v, some (.rows true 3 1 (acc.map eI))⟩ ∧ m = l.length - k ∧ wholeL (l.drop k) acc = wholeL l [] ∧ k ≤ l.length ∧ acc.length = k) l.length ?_ ?_
  · exact ⟨0, [], _, rd, rd, rd, rd, rdm, rfl, rfl, by omega, rfl⟩
  · rintro m σ ⟨k, acc, v, h9, h10, h11, h4, hm, rfl, hr, hk, hac⟩
    by_cases hl : k < l.length
    · obtain ⟨d, hs⟩ : ∃ d, l[k]? = some d := ⟨_, List.getElem?_eq_getElem hl⟩
      rw [drop_get hs, wholeL] at hr
      replace hr := Asd.mk hr
      have htk := eI_take acc; rw [hac] at htk
      (repeat refine stp ?_)
      (refine RC (whole_den d (hw d (List.mem_of_getElem? hs))) ?_)
      cases hb : (wholeB d).2 with
      | false =>
        have hr := hr.out
        rw [hb, if_neg (by simp)] at hr
        rw [← hr]
        clear hr
        (repeat refine stp ?_)
        exact FZ (.loc 2 0)
      | true =>
        have hr := hr.out
        rw [hb, if_pos rfl] at hr
        replace hr := Asd.mk hr
        (repeat refine stp ?_)
        exact ⟨_, by omega, k + 1, acc ++ [(wholeB d).1], v + 1, rd, rd, rd, by (first | exact rd | (simp only [List.length_append]; exact rd)), by (simp only [List.map_append]; exact rdm), rfl, hr.out, by omega, by simp [hac]⟩
    · have hke : k = l.length := by omega
      subst hke
      rw [List.drop_length, wholeL] at hr
      rw [← hr]
      clear hr
      have htk := eI_take acc; rw [hac] at htk
      (repeat refine stp ?_)
      exact FZ (.loc 4 0)
end Go.Proofs.YtfdeheodjkpkkaaGreatDoor.V
namespace Go.Proofs.YtfdeheodjkpkkaaGreatDoor.V
open Go Go.Proofs Go.Proofs.Ev Go.Proofs.YtfdeheodjkpkkaaGreatDoor Go.Proofs.YtfdeheodjkpkkaaGreatDoor.Sp Go.Proofs.YtfdeheodjkpkkaaGreatDoor.Ba
set_option maxHeartbeats 4000000
set_option maxRecDepth 100000
set_option linter.unusedSimpArgs false
set_option linter.unusedVariables false
set_option linter.unusedSectionVars false
theorem take_allm {α β : Type} (f : α → β) (l : List α) : (l.map f).take l.length = l.map f := List.take_of_length_le (by simp)
theorem all_eI (l : List Int) : ((l.map eI).all fun r => decide (r.length = 1) && r.all PV.sf) = true := by
  rw [List.all_map, List.all_eq_true]
  intro x _
  rfl
theorem len_eI (l : List Int) : ((l.map eI).all fun r => r.length == 1) = true := by
  rw [List.all_map, List.all_eq_true]
  intro x _
  rfl
theorem sf_eI (l : List Int) : ((l.map eI).all fun r => r.all PV.sf) = true := by
  rw [List.all_map, List.all_eq_true]
  intro x _
  rfl
theorem clone_int_nil : Den Tryz.prog 89 [.ro []] [] (.ro []) [] [] := by
  refine Den_split [] [] ?_ ?_
  · (refine den_walk mix Tryz.func89 rfl (by kernel_rfl) rfl [.tmp 2] rfl (by simp) ?_; simp only [bodyOf, Tryz.f89])
    (repeat refine stp ?_)
    exact FZ (.loc 2 0)
  · (refine den_walk mix Tryz.func89 rfl (by kernel_rfl) rfl [.tmp 2] rfl (by simp) ?_; simp only [bodyOf, Tryz.f89])
    (repeat refine stp ?_)
    exact FZ (.loc 5 0)
theorem clone_int (l : List Int) (hn : l.length ≤ 1099511627776) : Den Tryz.prog 89 [.ro (l.map eI)] [] (.ro (l.map eI)) [] [] := by
  cases l with
  | nil => exact clone_int_nil
  | cons x l =>
    simp only [List.length_cons] at hn
    have ha := all_eI l
    have ht := take_allm eI l
    have hz := Nat.zero_add (l.length + 1)
    have hx : (l.length + 1) * 8 ≤ 140737488355328 := by omega
    (refine den_walk mix Tryz.func89 rfl (by kernel_rfl) rfl [.tmp 2] rfl (by simp) ?_; simp only [bodyOf, Tryz.f89])
    (repeat refine stp ?_)
    exact FZ (.loc 5 0)
theorem all_eS (l : List ByteArray) : ((l.map eS).all fun r => decide (r.length = 1) && r.all PV.sf) = true := by
  rw [List.all_map, List.all_eq_true]
  intro x _
  rfl
theorem len_eS (l : List ByteArray) : ((l.map eS).all fun r => r.length == 1) = true := by
  rw [List.all_map, List.all_eq_true]
  intro x _
  rfl
theorem sf_eS (l : List ByteArray) : ((l.map eS).all fun r => r.all PV.sf) = true := by
  rw [List.all_map, List.all_eq_true]
  intro x _
  rfl
theorem clone_str_nil : Den Tryz.prog 60 [.ro []] [] (.ro []) [] [] := by
  refine Den_split [] [] ?_ ?_
  · (refine den_walk mix Tryz.func60 rfl (by kernel_rfl) rfl [.tmp 2] rfl (by simp) ?_; simp only [bodyOf, Tryz.f60])
    (repeat refine stp ?_)
    exact FZ (.loc 2 0)
  · (refine den_walk mix Tryz.func60 rfl (by kernel_rfl) rfl [.tmp 2] rfl (by simp) ?_; simp only [bodyOf, Tryz.f60])
    (repeat refine stp ?_)
    exact FZ (.loc 5 0)
theorem clone_str (l : List ByteArray) (hn : l.length ≤ 1099511627776) : Den Tryz.prog 60 [.ro (l.map eS)] [] (.ro (l.map eS)) [] [] := by
  cases l with
  | nil => exact clone_str_nil
  | cons x l =>
    simp only [List.length_cons] at hn
    have ha := all_eS l
    have ht := take_allm eS l
    have hz := Nat.zero_add (l.length + 1)
    have hx : (l.length + 1) * 16 ≤ 140737488355328 := by omega
    (refine den_walk mix Tryz.func60 rfl (by kernel_rfl) rfl [.tmp 2] rfl (by simp) ?_; simp only [bodyOf, Tryz.f60])
    (repeat refine stp ?_)
    exact FZ (.loc 5 0)
theorem all_eD (l : List Sp.Dec) : ((l.map eD).all fun r => decide (r.length = 2) && r.all PV.sf) = true := by
  rw [List.all_map, List.all_eq_true]
  intro x _
  rfl
theorem len_eD (l : List Sp.Dec) : ((l.map eD).all fun r => r.length == 2) = true := by
  rw [List.all_map, List.all_eq_true]
  intro x _
  rfl
theorem sf_eD (l : List Sp.Dec) : ((l.map eD).all fun r => r.all PV.sf) = true := by
  rw [List.all_map, List.all_eq_true]
  intro x _
  rfl
theorem clone_dec_nil : Den Tryz.prog 92 [.ro []] [] (.ro []) [] [] := by
  refine Den_split [] [] ?_ ?_
  · (refine den_walk mix Tryz.func92 rfl (by kernel_rfl) rfl [.tmp 2] rfl (by simp) ?_; simp only [bodyOf, Tryz.f92])
    (repeat refine stp ?_)
    exact FZ (.loc 2 0)
  · (refine den_walk mix Tryz.func92 rfl (by kernel_rfl) rfl [.tmp 2] rfl (by simp) ?_; simp only [bodyOf, Tryz.f92])
    (repeat refine stp ?_)
    exact FZ (.loc 5 0)
theorem clone_dec (l : List Sp.Dec) (hn : l.length ≤ 1099511627776) : Den Tryz.prog 92 [.ro (l.map eD)] [] (.ro (l.map eD)) [] [] := by
  cases l with
  | nil => exact clone_dec_nil
  | cons x l =>
    simp only [List.length_cons] at hn
    have ha := all_eD l
    have ht := take_allm eD l
    have hz := Nat.zero_add (l.length + 1)
    have hx : (l.length + 1) * 16 ≤ 140737488355328 := by omega
    (refine den_walk mix Tryz.func92 rfl (by kernel_rfl) rfl [.tmp 2] rfl (by simp) ?_; simp only [bodyOf, Tryz.f92])
    (repeat refine stp ?_)
    exact FZ (.loc 5 0)
theorem all_eN (l : List Sp.Nd) : ((l.map eN).all fun r => decide (r.length = 4) && r.all PV.sf) = true := by
  rw [List.all_map, List.all_eq_true]
  intro x _
  rfl
theorem len_eN (l : List Sp.Nd) : ((l.map eN).all fun r => r.length == 4) = true := by
  rw [List.all_map, List.all_eq_true]
  intro x _
  rfl
theorem sf_eN (l : List Sp.Nd) : ((l.map eN).all fun r => r.all PV.sf) = true := by
  rw [List.all_map, List.all_eq_true]
  intro x _
  rfl
theorem clone_node_nil : Den Tryz.prog 118 [.ro []] [] (.ro []) [] [] := by
  refine Den_split [] [] ?_ ?_
  · (refine den_walk mix Tryz.func118 rfl (by kernel_rfl) rfl [.tmp 2] rfl (by simp) ?_; simp only [bodyOf, Tryz.f118])
    (repeat refine stp ?_)
    exact FZ (.loc 2 0)
  · (refine den_walk mix Tryz.func118 rfl (by kernel_rfl) rfl [.tmp 2] rfl (by simp) ?_; simp only [bodyOf, Tryz.f118])
    (repeat refine stp ?_)
    exact FZ (.loc 5 0)
theorem clone_node_own (x : Sp.Nd) (l : List Sp.Nd) (hn : l.length + 1 ≤ 1099511627776) : Den Tryz.prog 118 [.ro ((x :: l).map eN)] [] (.own (.loc 0 0) 1 (l.length + 1)) [.rows true 37 4 ((x :: l).map eN)] [] := by
  have ha := all_eN l
  have ht := take_allm eN l
  have hs := sf_eN l
  have hz := Nat.zero_add (l.length + 1)
  have hx : (l.length + 1) * 80 ≤ 140737488355328 := by omega
  (refine den_walk mix Tryz.func118 rfl (by kernel_rfl) rfl [.tmp 2] rfl (by simp) ?_; simp only [bodyOf, Tryz.f118])
  (repeat refine stp ?_)
  exact FN (.loc 5 0)
theorem all_eO (l : List Sp.Ob) : ((l.map eO).all fun r => decide (r.length = 4) && r.all PV.sf) = true := by
  rw [List.all_map, List.all_eq_true]
  intro x _
  rfl
theorem len_eO (l : List Sp.Ob) : ((l.map eO).all fun r => r.length == 4) = true := by
  rw [List.all_map, List.all_eq_true]
  intro x _
  rfl
theorem sf_eO (l : List Sp.Ob) : ((l.map eO).all fun r => r.all PV.sf) = true := by
  rw [List.all_map, List.all_eq_true]
  intro x _
  rfl
theorem clone_obj_nil : Den Tryz.prog 58 [.ro []] [] (.ro []) [] [] := by
  refine Den_split [] [] ?_ ?_
  · (refine den_walk mix Tryz.func58 rfl (by kernel_rfl) rfl [.tmp 2] rfl (by simp) ?_; simp only [bodyOf, Tryz.f58])
    (repeat refine stp ?_)
    exact FZ (.loc 2 0)
  · (refine den_walk mix Tryz.func58 rfl (by kernel_rfl) rfl [.tmp 2] rfl (by simp) ?_; simp only [bodyOf, Tryz.f58])
    (repeat refine stp ?_)
    exact FZ (.loc 5 0)
theorem clone_obj_own (x : Sp.Ob) (l : List Sp.Ob) (hn : l.length + 1 ≤ 1099511627776) : Den Tryz.prog 58 [.ro ((x :: l).map eO)] [] (.own (.loc 0 0) 1 (l.length + 1)) [.rows true 29 4 ((x :: l).map eO)] [] := by
  have ha := all_eO l
  have ht := take_allm eO l
  have hs := sf_eO l
  have hz := Nat.zero_add (l.length + 1)
  have hx : (l.length + 1) * 72 ≤ 140737488355328 := by omega
  (refine den_walk mix Tryz.func58 rfl (by kernel_rfl) rfl [.tmp 2] rfl (by simp) ?_; simp only [bodyOf, Tryz.f58])
  (repeat refine stp ?_)
  exact FN (.loc 5 0)
end Go.Proofs.YtfdeheodjkpkkaaGreatDoor.V
namespace Go.Proofs.YtfdeheodjkpkkaaGreatDoor.V
open Go Go.Proofs Go.Proofs.Ev Go.Proofs.YtfdeheodjkpkkaaGreatDoor Go.Proofs.YtfdeheodjkpkkaaGreatDoor.Sp Go.Proofs.YtfdeheodjkpkkaaGreatDoor.Ba
set_option maxHeartbeats 4000000
set_option maxRecDepth 100000
set_option linter.unusedSimpArgs false
set_option linter.unusedVariables false
set_option linter.unusedSectionVars false
theorem set_same {α : Type} {l : List α} {k : Nat} {x : α} (h : l[k]? = some x) : l.set k x = l := by
  refine List.ext_getElem? (fun i => ?_)
  by_cases hi : i = k
  · subst hi
    rw [List.getElem?_set_self (List.getElem?_eq_some_iff.1 h).1, h]
  · rw [List.getElem?_set_ne (Ne.symm hi)]
theorem map_get {α β : Type} {f : α → β} {l : List α} {k : Nat} {x : α} (h : l[k]? = some x) : (l.map f)[k]? = some (f x) := by
  rw [List.getElem?_map, h]; rfl
theorem copy_arr (a : List Sp.Nd) (ha : a.length ≤ 1048576) (hw : ∀ n ∈ a, wfN n) : Den Tryz.prog 59 [.ro (a.map eN)] [] (.ro (a.map eN)) [] [] := by
  cases a with
  | nil =>
    (refine den_walk mix Tryz.func59 rfl (by kernel_rfl) rfl [.tmp 2] rfl (by simp) ?_; simp only [bodyOf, Tryz.f59])
    (repeat refine stp ?_)
    (refine RC (clone_node_nil) ?_)
    (repeat refine stp ?_)
    refine Run_loop (fun m σ => σ.t 10 = .int .i64 0 ∧ σ.t 9 = .int .i64 0 ∧ σ.t 3 = .ro []) 0 ⟨rd, rd, rd⟩ ?_
    rintro m σ ⟨h10, h9, h3⟩
    (repeat refine stp ?_)
    exact FE
  | cons x l =>
    simp only [List.length_cons] at ha
    have hsf0 := sf_eN l
    (refine den_walk mix Tryz.func59 rfl (by kernel_rfl) rfl [.tmp 2] rfl (by simp) ?_; simp only [bodyOf, Tryz.f59])
    (repeat refine stp ?_)
    (refine RN (clone_node_own x l (by omega)) ?_)
    generalize hA : x :: l = A at *
    have hl : l.length + 1 = A.length := by rw [← hA]; rfl
    rw [hl]
    rw [hl] at ha
    have htk := take_allm eN A
    have hsf := sf_eN A
    (repeat refine stp ?_)
    refine Run_loop (fun m σ => ∃ (k : Nat) (v : Nat), σ.t 8 = .own (.loc 7 0) v A.length ∧ σ.t 9 = .int .i64 A.length ∧ σ.t 10 = .int .i64 k ∧ σ.t 3 = .own (.loc 7 0) v A.length ∧ σ.m (.loc 7 0) = ⟨v, some (.rows true 37 4 (A.map eN))⟩ ∧ m = A.length - k ∧ k ≤ A.length) A.length ?_ ?_
    · exact ⟨0, _, rd, rd, rd, rd, rdm, rfl, by omega⟩
    · rintro m σ ⟨k, v, h8, h9, h10, h3, hm, rfl, hk⟩
      by_cases hk1 : k < A.length
      · obtain ⟨n, hs⟩ : ∃ n, A[k]? = some n := ⟨_, List.getElem?_eq_getElem hk1⟩
        have hse : (A.map eN).set k [.int .i64 n.f0, .ro (n.f1.map eI), .ro (n.f2.map eI), .ro (n.f3.map eD)] = A.map eN := set_same (map_get hs)
        have hwn := hw n (List.mem_of_getElem? hs)
        (repeat refine stp ?_)
        (refine DC (clone_int n.f1 hwn.ls) ?_)
        (repeat refine stp ?_)
        (refine DC (clone_int n.f2 hwn.li) ?_)
        (repeat refine stp ?_)
        (refine DC (clone_dec n.f3 hwn.ld) ?_)
        (repeat refine stp ?_)
        exact ⟨_, by omega, k + 1, v, rd, rd, rd, rd, rdm, rfl, by omega⟩
      · have hke : k = A.length := by omega
        subst hke
        (repeat refine stp ?_)
        exact FZ (.loc 7 0)
end Go.Proofs.YtfdeheodjkpkkaaGreatDoor.V
