/- What the laws lean on, part 4: texts of this claim, merged and cut to what is used. -/
import Derived.Test.YtfdeheodjkpkkaaGreatDoorP18All0
import Derived.Test.YtfdeheodjkpkkaaGreatDoorP18All1
import Derived.Test.YtfdeheodjkpkkaaGreatDoorP18All2
import Derived.Test.YtfdeheodjkpkkaaGreatDoorP18All3
import Derived.Test.YtfdeheodjkpkkaaGreatDoorP18All4
import Derived.Test.YtfdeheodjkpkkaaGreatDoorP18All5
import Derived.Test.YtfdeheodjkpkkaaGreatDoorP18All6
import Derived.Test.YtfdeheodjkpkkaaGreatDoorP18All7
import Derived.Test.YtfdeheodjkpkkaaGreatDoorP18All8
import Derived.Test.YtfdeheodjkpkkaaGreatDoorP18Sp
import Derived.Test.YtfdeheodjkpkkaaGreatDoorP183
import Derived.Test.YtfdeheodjkpkkaaGreatDoorP181
set_option linter.unusedVariables false
set_option linter.unusedSimpArgs false
set_option linter.unusedSectionVars false
namespace Go.Proofs.YtfdeheodjkpkkaaGreatDoor.V
open Go Go.Proofs Go.Proofs.Ev Go.Proofs.YtfdeheodjkpkkaaGreatDoor Go.Proofs.YtfdeheodjkpkkaaGreatDoor.Sp Go.Proofs.YtfdeheodjkpkkaaGreatDoor.Dm Go.Proofs.YtfdeheodjkpkkaaGreatDoor.Ba Go.Proofs.YtfdeheodjkpkkaaGreatDoor.G Go.Proofs.YtfdeheodjkpkkaaGreatDoor.All
set_option linter.unusedVariables false
set_option linter.unusedSimpArgs false
set_option maxHeartbeats 4000000
set_option maxRecDepth 100000
instance tbl : Tbl Tryz.prog := ⟨G.Tabs⟩
@[go_sem] def eI (n : Int) : List PV := [.int .i64 n]
@[go_sem] def eS (s : ByteArray) : List PV := [.str s]
@[go_sem] def eD (d : Sp.Dec) : List PV := [.int .i64 d.f0, .int .i64 d.f1]
@[go_sem] def eN (n : Sp.Nd) : List PV := [.int .i64 n.f0, .ro (n.f1.map eI), .ro (n.f2.map eI), .ro (n.f3.map eD)]
@[go_sem] def eO (o : Sp.Ob) : List PV := [.int .i64 o.f0, .str o.f1, .ro (o.f2.map eN), .ro (o.f3.map eS)]
@[go_sem] theorem boolT : boolP Tryz.prog 4 = true := by kernel_rfl
theorem mix : Tryz.prog.follows .mixedOrders = true := by kernel_rfl
theorem right_den (x : Sp.Dec) (h : wfD x) : Den Tryz.prog 42 [.agg (eD x)] [] (.bool (rightB x)) [] [] := by
  obtain ⟨k, hk⟩ := Ba.Ev.at_ (De.right_ev' x.f0 x.f1 h.1 h.2)
  rw [← rightD_eq] at hk
  exact den_of_calls (us := [.agg #[.int .i64 x.f0, .int .i64 x.f1]]) rfl rfl (fun w hT => decimal_Right.calls k _ _ _ w hT hk)
theorem whole_den (x : Sp.Dec) (h : wfD x) : Den Tryz.prog 44 [.agg (eD x)] [] (.tup [.int .i64 (wholeB x).1, .bool (wholeB x).2]) [] [] := by
  obtain ⟨k, hk⟩ := Ba.Ev.at_ (De.whole_ev x.f0 x.f1 h.1 h.2)
  exact den_of_calls (us := [.agg #[.int .i64 x.f0, .int .i64 x.f1]]) rfl rfl (fun w hT => decimal_Whole.calls k _ _ _ _ w hT hk)
theorem of_den (n : Int) (h : I n) : Den Tryz.prog 40 [.int .i64 n] [] (.agg [.int .i64 (ofB n).f0, .int .i64 (ofB n).f1]) [] [] := by
  obtain ⟨k, hk⟩ := Ba.Ev.at_ (De.of_ev n h)
  exact den_of_calls (us := [.int .i64 n]) rfl rfl (fun w hT => decimal_Of.calls k _ _ _ w hT hk)
theorem fits_den (k v : Int) : Den Tryz.prog 214 [.int .i64 k, .int .i64 v] [] (.bool (fitsB k v)) [] [] := by
  refine den_of_calls (us := [.int .i64 k, .int .i64 v]) rfl rfl (fun w hT => Calls.mono (array_fits.calls k v (fitsB k v) w hT ?_) (fun e w' h => ⟨h.1, h.2.below⟩))
  unfold array_fits.f fitsB utf8_ValidRune.f
  repeat' split
  all_goals first | rfl | simp_all
theorem drop_get {α : Type} {l : List α} {k : Nat} {s : α} (hs : l[k]? = some s) : l.drop k = s :: l.drop (k + 1) := by
  have hl : k < l.length := (List.getElem?_eq_some_iff.1 hs).1
  rw [List.drop_eq_getElem_cons hl]
  congr 1
  rw [List.getElem?_eq_getElem hl] at hs
  exact Option.some.inj hs
/-- The place of the first one for which it holds. -/
@[go_sem] def idx {α : Type} (p : α → Bool) : List α → Nat → Int
  | [], _ => -1
  | x :: l, k => if p x then k else idx p l (k + 1)
theorem idx_any_t {α : Type} {p : α → Bool} : ∀ {l : List α} {k : Nat}, l.any p = true → 0 ≤ idx p l k
  | [], _, h => by simp at h
  | x :: l, k, h => by
    unfold idx
    split
    · omega
    · rename_i hx
      exact idx_any_t (by simpa [hx] using h)
theorem idx_any_f {α : Type} {p : α → Bool} : ∀ {l : List α} {k : Nat}, l.any p = false → idx p l k = -1
  | [], _, h => rfl
  | x :: l, k, h => by
    rw [List.any_cons, Bool.or_eq_false_iff] at h
    unfold idx
    rw [if_neg (by simp [h.1])]
    exact idx_any_f h.2
end Go.Proofs.YtfdeheodjkpkkaaGreatDoor.V
namespace Go.Proofs.YtfdeheodjkpkkaaGreatDoor.V
open Go Go.Proofs Go.Proofs.Ev Go.Proofs.YtfdeheodjkpkkaaGreatDoor Go.Proofs.YtfdeheodjkpkkaaGreatDoor.Sp
set_option maxHeartbeats 4000000
set_option maxRecDepth 100000
set_option linter.unusedSimpArgs false
set_option linter.unusedVariables false
set_option linter.unusedSectionVars false
theorem indexFunc_int (l : List Int) (hn : l.length ≤ 1099511627776) (g : Nat) (caps : List PV) (hcap : plainA (.fn g caps) = true) (hok : okF Tryz.prog g = true) (p : Int → Bool) (hp : ∀ x ∈ l, Den Tryz.prog g ([.int .i64 x] ++ caps) [] (.bool (p x)) [] []) : Den Tryz.prog 148 [.ro (l.map eI), .fn g caps] [] (.int .i64 (idx p l 0)) [] [] := by
  (refine den_walk mix Tryz.func148 rfl (by kernel_rfl) rfl [.tmp 4] rfl (by simp) ?_; simp only [bodyOf, Tryz.f148])
  (repeat refine stp ?_)
  refine Run_loop (fun m σ => ∃ k : Nat, σ.t 0 = .ro (l.map eI) ∧ σ.t 1 = .fn g caps ∧ σ.t 7 = .int .i64 l.length ∧ σ.t 8 = .int .i64 k ∧ m = l.length - k ∧ idx p (l.drop k) k = idx p l 0 ∧ k ≤ l.length) l.length ?_ ?_
  · refine ⟨0, ?_, ?_, ?_, ?_, ?_, ?_, ?_⟩ <;> first | omega | exact rd | rfl
  · rintro m σ ⟨k, h0, h1, h7, h8, rfl, hr, hk⟩
    by_cases hl : k < l.length
    · obtain ⟨s, hs⟩ : ∃ s, l[k]? = some s := ⟨_, List.getElem?_eq_getElem hl⟩
      have hd : l.drop k = s :: l.drop (k + 1) := drop_get hs
      rw [hd] at hr
      (repeat refine stp ?_)
      have hm : s ∈ l := List.mem_of_getElem? hs
      have hca := plainA_caps hcap
      (refine RC (hp s hm) ?_)
      cases hps : p s with
      | true =>
        (repeat refine stp ?_)
        (rw [← hr]; exact FE)
      | false =>
        (repeat refine stp ?_)
        refine ⟨_, ?_, k + 1, ?_, ?_, ?_, ?_, rfl, ?_, ?_⟩
        all_goals first | omega | exact rd | (rw [← hr]; simp only [idx, hps, Bool.false_eq_true, if_false]; done)
    · have hke : k = l.length := by omega
      subst hke
      (repeat refine stp ?_)
      (rw [← hr, List.drop_length]; exact FE)
theorem containsFunc_int (l : List Int) (hn : l.length ≤ 1099511627776) (g : Nat) (caps : List PV) (hcap : plainA (.fn g caps) = true) (hok : okF Tryz.prog g = true) (p : Int → Bool) (hp : ∀ x ∈ l, Den Tryz.prog g ([.int .i64 x] ++ caps) [] (.bool (p x)) [] []) : Den Tryz.prog 93 [.ro (l.map eI), .fn g caps] [] (.bool (l.any p)) [] [] := by
  (refine den_walk mix Tryz.func93 rfl (by kernel_rfl) rfl [.tmp 4] rfl (by simp) ?_; simp only [bodyOf, Tryz.f93])
  (repeat refine stp ?_)
  (refine RC (indexFunc_int l hn g caps hcap hok p hp) ?_)
  cases ha : l.any p with
  | true =>
    have := idx_any_t (k := 0) ha
    (repeat refine stp ?_)
    exact FE
  | false =>
    have := idx_any_f (k := 0) ha
    (repeat refine stp ?_)
    exact FE
theorem indexFunc_dec (l : List Sp.Dec) (hn : l.length ≤ 1099511627776) (g : Nat) (caps : List PV) (hcap : plainA (.fn g caps) = true) (hok : okF Tryz.prog g = true) (p : Sp.Dec → Bool) (hp : ∀ x ∈ l, Den Tryz.prog g ([.agg [.int .i64 x.f0, .int .i64 x.f1]] ++ caps) [] (.bool (p x)) [] []) : Den Tryz.prog 147 [.ro (l.map eD), .fn g caps] [] (.int .i64 (idx p l 0)) [] [] := by
  (refine den_walk mix Tryz.func147 rfl (by kernel_rfl) rfl [.tmp 4] rfl (by simp) ?_; simp only [bodyOf, Tryz.f147])
  (repeat refine stp ?_)
  refine Run_loop (fun m σ => ∃ k : Nat, σ.t 0 = .ro (l.map eD) ∧ σ.t 1 = .fn g caps ∧ σ.t 7 = .int .i64 l.length ∧ σ.t 8 = .int .i64 k ∧ m = l.length - k ∧ idx p (l.drop k) k = idx p l 0 ∧ k ≤ l.length) l.length ?_ ?_
  · refine ⟨0, ?_, ?_, ?_, ?_, ?_, ?_, ?_⟩ <;> first | omega | exact rd | rfl
  · rintro m σ ⟨k, h0, h1, h7, h8, rfl, hr, hk⟩
    by_cases hl : k < l.length
    · obtain ⟨s, hs⟩ : ∃ s, l[k]? = some s := ⟨_, List.getElem?_eq_getElem hl⟩
      have hd : l.drop k = s :: l.drop (k + 1) := drop_get hs
      rw [hd] at hr
      (repeat refine stp ?_)
      have hm : s ∈ l := List.mem_of_getElem? hs
      have hca := plainA_caps hcap
      (refine RC (hp s hm) ?_)
      cases hps : p s with
      | true =>
        (repeat refine stp ?_)
        (rw [← hr]; exact FE)
      | false =>
        (repeat refine stp ?_)
        refine ⟨_, ?_, k + 1, ?_, ?_, ?_, ?_, rfl, ?_, ?_⟩
        all_goals first | omega | exact rd | (rw [← hr]; simp only [idx, hps, Bool.false_eq_true, if_false]; done)
    · have hke : k = l.length := by omega
      subst hke
      (repeat refine stp ?_)
      (rw [← hr, List.drop_length]; exact FE)
theorem containsFunc_dec (l : List Sp.Dec) (hn : l.length ≤ 1099511627776) (g : Nat) (caps : List PV) (hcap : plainA (.fn g caps) = true) (hok : okF Tryz.prog g = true) (p : Sp.Dec → Bool) (hp : ∀ x ∈ l, Den Tryz.prog g ([.agg [.int .i64 x.f0, .int .i64 x.f1]] ++ caps) [] (.bool (p x)) [] []) : Den Tryz.prog 88 [.ro (l.map eD), .fn g caps] [] (.bool (l.any p)) [] [] := by
  (refine den_walk mix Tryz.func88 rfl (by kernel_rfl) rfl [.tmp 4] rfl (by simp) ?_; simp only [bodyOf, Tryz.f88])
  (repeat refine stp ?_)
  (refine RC (indexFunc_dec l hn g caps hcap hok p hp) ?_)
  cases ha : l.any p with
  | true =>
    have := idx_any_t (k := 0) ha
    (repeat refine stp ?_)
    exact FE
  | false =>
    have := idx_any_f (k := 0) ha
    (repeat refine stp ?_)
    exact FE
theorem indexFunc_str (l : List ByteArray) (hn : l.length ≤ 1099511627776) (g : Nat) (caps : List PV) (hcap : plainA (.fn g caps) = true) (hok : okF Tryz.prog g = true) (p : ByteArray → Bool) (hp : ∀ x ∈ l, Den Tryz.prog g ([.str x] ++ caps) [] (.bool (p x)) [] []) : Den Tryz.prog 155 [.ro (l.map eS), .fn g caps] [] (.int .i64 (idx p l 0)) [] [] := by
  (refine den_walk mix Tryz.func155 rfl (by kernel_rfl) rfl [.tmp 4] rfl (by simp) ?_; simp only [bodyOf, Tryz.f155])
  (repeat refine stp ?_)
  refine Run_loop (fun m σ => ∃ k : Nat, σ.t 0 = .ro (l.map eS) ∧ σ.t 1 = .fn g caps ∧ σ.t 7 = .int .i64 l.length ∧ σ.t 8 = .int .i64 k ∧ m = l.length - k ∧ idx p (l.drop k) k = idx p l 0 ∧ k ≤ l.length) l.length ?_ ?_
  · refine ⟨0, ?_, ?_, ?_, ?_, ?_, ?_, ?_⟩ <;> first | omega | exact rd | rfl
  · rintro m σ ⟨k, h0, h1, h7, h8, rfl, hr, hk⟩
    by_cases hl : k < l.length
    · obtain ⟨s, hs⟩ : ∃ s, l[k]? = some s := ⟨_, List.getElem?_eq_getElem hl⟩
      have hd : l.drop k = s :: l.drop (k + 1) := drop_get hs
      rw [hd] at hr
      (repeat refine stp ?_)
      have hm : s ∈ l := List.mem_of_getElem? hs
      have hca := plainA_caps hcap
      (refine RC (hp s hm) ?_)
      cases hps : p s with
      | true =>
        (repeat refine stp ?_)
        (rw [← hr]; exact FE)
      | false =>
        (repeat refine stp ?_)
        refine ⟨_, ?_, k + 1, ?_, ?_, ?_, ?_, rfl, ?_, ?_⟩
        all_goals first | omega | exact rd | (rw [← hr]; simp only [idx, hps, Bool.false_eq_true, if_false]; done)
    · have hke : k = l.length := by omega
      subst hke
      (repeat refine stp ?_)
      (rw [← hr, List.drop_length]; exact FE)
theorem containsFunc_str (l : List ByteArray) (hn : l.length ≤ 1099511627776) (g : Nat) (caps : List PV) (hcap : plainA (.fn g caps) = true) (hok : okF Tryz.prog g = true) (p : ByteArray → Bool) (hp : ∀ x ∈ l, Den Tryz.prog g ([.str x] ++ caps) [] (.bool (p x)) [] []) : Den Tryz.prog 99 [.ro (l.map eS), .fn g caps] [] (.bool (l.any p)) [] [] := by
  (refine den_walk mix Tryz.func99 rfl (by kernel_rfl) rfl [.tmp 4] rfl (by simp) ?_; simp only [bodyOf, Tryz.f99])
  (repeat refine stp ?_)
  (refine RC (indexFunc_str l hn g caps hcap hok p hp) ?_)
  cases ha : l.any p with
  | true =>
    have := idx_any_t (k := 0) ha
    (repeat refine stp ?_)
    exact FE
  | false =>
    have := idx_any_f (k := 0) ha
    (repeat refine stp ?_)
    exact FE
theorem index_int (l : List Int) (hn : l.length ≤ 1099511627776) (y : Int) : Den Tryz.prog 196 [.ro (l.map eI), .int .i64 y] [] (.int .i64 (idx (fun x => y == x) l 0)) [] [] := by
  (refine den_walk mix Tryz.func196 rfl (by kernel_rfl) rfl [.tmp 4] rfl (by simp) ?_; simp only [bodyOf, Tryz.f196])
  (repeat refine stp ?_)
  refine Run_loop (fun m σ => ∃ k : Nat, σ.t 0 = .ro (l.map eI) ∧ σ.t 1 = .int .i64 y ∧ σ.t 7 = .int .i64 l.length ∧ σ.t 8 = .int .i64 k ∧ m = l.length - k ∧ idx (fun x => y == x) (l.drop k) k = idx (fun x => y == x) l 0 ∧ k ≤ l.length) l.length ?_ ?_
  · refine ⟨0, ?_, ?_, ?_, ?_, ?_, ?_, ?_⟩ <;> first | omega | exact rd | rfl
  · rintro m σ ⟨k, h0, h1, h7, h8, rfl, hr, hk⟩
    by_cases hl : k < l.length
    · obtain ⟨s, hs⟩ : ∃ s, l[k]? = some s := ⟨_, List.getElem?_eq_getElem hl⟩
      have hd : l.drop k = s :: l.drop (k + 1) := drop_get hs
      rw [hd] at hr
      cases hps : (y == s) with
      | true =>
        (repeat refine stp ?_)
        (rw [← hr]; exact FE)
      | false =>
        (repeat refine stp ?_)
        refine ⟨_, ?_, k + 1, ?_, ?_, ?_, ?_, rfl, ?_, ?_⟩
        all_goals first | omega | exact rd | (rw [← hr]; simp only [idx, hps, Bool.false_eq_true, if_false]; done)
    · have hke : k = l.length := by omega
      subst hke
      (repeat refine stp ?_)
      (rw [← hr, List.drop_length]; exact FE)
theorem contains_int (l : List Int) (hn : l.length ≤ 1099511627776) (y : Int) : Den Tryz.prog 146 [.ro (l.map eI), .int .i64 y] [] (.bool (l.any (fun x => y == x))) [] [] := by
  (refine den_walk mix Tryz.func146 rfl (by kernel_rfl) rfl [.tmp 4] rfl (by simp) ?_; simp only [bodyOf, Tryz.f146])
  (repeat refine stp ?_)
  (refine RC (index_int l hn y) ?_)
  cases ha : l.any (fun x => y == x) with
  | true =>
    have := idx_any_t (k := 0) ha
    (repeat refine stp ?_)
    exact FE
  | false =>
    have := idx_any_f (k := 0) ha
    (repeat refine stp ?_)
    exact FE
theorem index_str (l : List ByteArray) (hn : l.length ≤ 1099511627776) (y : ByteArray) : Den Tryz.prog 251 [.ro (l.map eS), .str y] [] (.int .i64 (idx (fun x => y.toList == x.toList) l 0)) [] [] := by
  (refine den_walk mix Tryz.func251 rfl (by kernel_rfl) rfl [.tmp 4] rfl (by simp) ?_; simp only [bodyOf, Tryz.f251])
  (repeat refine stp ?_)
  refine Run_loop (fun m σ => ∃ k : Nat, σ.t 0 = .ro (l.map eS) ∧ σ.t 1 = .str y ∧ σ.t 7 = .int .i64 l.length ∧ σ.t 8 = .int .i64 k ∧ m = l.length - k ∧ idx (fun x => y.toList == x.toList) (l.drop k) k = idx (fun x => y.toList == x.toList) l 0 ∧ k ≤ l.length) l.length ?_ ?_
  · refine ⟨0, ?_, ?_, ?_, ?_, ?_, ?_, ?_⟩ <;> first | omega | exact rd | rfl
  · rintro m σ ⟨k, h0, h1, h7, h8, rfl, hr, hk⟩
    by_cases hl : k < l.length
    · obtain ⟨s, hs⟩ : ∃ s, l[k]? = some s := ⟨_, List.getElem?_eq_getElem hl⟩
      have hd : l.drop k = s :: l.drop (k + 1) := drop_get hs
      rw [hd] at hr
      cases hps : (y.toList == s.toList) with
      | true =>
        (repeat refine stp ?_)
        (rw [← hr]; exact FE)
      | false =>
        (repeat refine stp ?_)
        refine ⟨_, ?_, k + 1, ?_, ?_, ?_, ?_, rfl, ?_, ?_⟩
        all_goals first | omega | exact rd | (rw [← hr]; simp only [idx, hps, Bool.false_eq_true, if_false]; done)
    · have hke : k = l.length := by omega
      subst hke
      (repeat refine stp ?_)
      (rw [← hr, List.drop_length]; exact FE)
theorem contains_str (l : List ByteArray) (hn : l.length ≤ 1099511627776) (y : ByteArray) : Den Tryz.prog 235 [.ro (l.map eS), .str y] [] (.bool (l.any (fun x => y.toList == x.toList))) [] [] := by
  (refine den_walk mix Tryz.func235 rfl (by kernel_rfl) rfl [.tmp 4] rfl (by simp) ?_; simp only [bodyOf, Tryz.f235])
  (repeat refine stp ?_)
  (refine RC (index_str l hn y) ?_)
  cases ha : l.any (fun x => y.toList == x.toList) with
  | true =>
    have := idx_any_t (k := 0) ha
    (repeat refine stp ?_)
    exact FE
  | false =>
    have := idx_any_f (k := 0) ha
    (repeat refine stp ?_)
    exact FE
end Go.Proofs.YtfdeheodjkpkkaaGreatDoor.V
namespace Go.Proofs.YtfdeheodjkpkkaaGreatDoor.V
open Go Go.Proofs Go.Proofs.Ev Go.Proofs.YtfdeheodjkpkkaaGreatDoor Go.Proofs.YtfdeheodjkpkkaaGreatDoor.Sp Go.Proofs.YtfdeheodjkpkkaaGreatDoor.Ba
set_option maxRecDepth 100000
set_option maxHeartbeats 4000000
set_option linter.unusedSimpArgs false
set_option linter.unusedVariables false
set_option linter.unusedSectionVars false
theorem bad_den (n : Int) : Den Tryz.prog 145 [.int .i64 n] [] (.bool (badDim n)) [] [] := by
  (refine den_walk mix Tryz.func145 rfl (by kernel_rfl) rfl [.tmp 2] rfl (by simp) ?_; simp only [bodyOf, Tryz.f145])
  by_cases h1 : n < 0
  · have e : badDim n = true := by simp [badDim, h1]
    rw [e]
    (repeat refine stp ?_)
    exact FE
  · by_cases h2 : n > 1048576
    · have e : badDim n = true := by simp [badDim, h2]
      rw [e]
      (repeat refine stp ?_)
      exact FE
    · have e : badDim n = false := by simp [badDim]; omega
      rw [e]
      (repeat refine stp ?_)
      exact FE
theorem badDim_f {n : Int} (h : badDim n = false) : 0 ≤ n ∧ n ≤ 1048576 := by
  simp [badDim] at h
  omega
theorem count_den (s : List Int) (hn : s.length ≤ 1099511627776) : Den Tryz.prog 87 [.ro (s.map eI)] [] (.tup [.int .i64 (cnt s).1, .bool (cnt s).2]) [] [] := by
  (refine den_walk mix Tryz.func87 rfl (by kernel_rfl) rfl [.tmp 2, .tmp 3] rfl (by simp) ?_; simp only [bodyOf, Tryz.f87])
  by_cases h16 : s.length > 16
  · have e : cnt s = (0, false) := by simp [cnt, h16]
    rw [e]
    (repeat refine stp ?_)
    exact FE
  · cases hb : s.any badDim with
    | true =>
      have e : cnt s = (0, false) := by simp only [cnt, if_neg h16, hb, if_true]
      rw [e]
      (repeat refine stp ?_)
      (refine RC (containsFunc_int s hn _ [] rfl (by kernel_rfl) badDim (fun x _ => bad_den x)) ?_)
      (repeat refine stp ?_)
      exact FE
    | false =>
      (repeat refine stp ?_)
      (refine RC (containsFunc_int s hn _ [] rfl (by kernel_rfl) badDim (fun x _ => bad_den x)) ?_)
      (repeat refine stp ?_)
      (refine RC (contains_int s hn 0) ?_)
      cases h0 : s.any (fun x => 0 == x) with
      | true =>
        have h0' : s.any (fun x => decide (x = 0)) = true := by rw [← h0]; congr 1; funext x; rw [Bool.eq_iff_iff]; simp only [beq_iff_eq, decide_eq_true_eq]; exact eq_comm
        have e : cnt s = (0, true) := by simp only [cnt, if_neg h16, hb, Bool.false_eq_true, if_false, h0', if_true]
        rw [e]
        (repeat refine stp ?_)
        exact FE
      | false =>
        have h0' : s.any (fun x => decide (x = 0)) = false := by rw [← h0]; congr 1; funext x; rw [Bool.eq_iff_iff]; simp only [beq_iff_eq, decide_eq_true_eq]; exact eq_comm
        have e : cnt s = cntGo s 1 := by simp only [cnt, if_neg h16, hb, Bool.false_eq_true, if_false, h0']
        rw [e]
        (repeat refine stp ?_)
        refine Run_loop (fun m σ => ∃ (k : Nat) (n : Int), σ.t 20 = .ro (s.map eI) ∧ σ.t 4 = .fn 145 [] ∧ σ.t 5 = .int .i64 n ∧ σ.t 21 = .int .i64 s.length ∧ σ.t 22 = .int .i64 k ∧ m = s.length - k ∧ cntGo (s.drop k) n = cntGo s 1 ∧ k ≤ s.length ∧ 0 ≤ n ∧ n ≤ 1048576) s.length ?_ ?_
        · exact ⟨0, 1, rd, rd, rd, rd, rd, rfl, rfl, by omega, by omega, by omega⟩
        · rintro m σ ⟨k, n, h20, h4, h5, h21, h22, rfl, hr, hk, hn0, hn1⟩
          by_cases hl : k < s.length
          · obtain ⟨x, hs⟩ : ∃ x, s[k]? = some x := ⟨_, List.getElem?_eq_getElem hl⟩
            rw [drop_get hs] at hr
            have hx := badDim_f (List.any_eq_false.1 hb x (List.mem_of_getElem? hs) |> fun h => by simpa using h)
            have hm0 : 0 ≤ n * x := Int.mul_nonneg hn0 hx.1
            have hm1 : n * x ≤ 1048576 * 1048576 := Int.mul_le_mul hn1 hx.2 hx.1 (by omega)
            (repeat refine stp ?_)
            (refine RC (bad_den (n * x)) ?_)
            cases hbx : badDim (n * x) with
            | true =>
              (repeat refine stp ?_)
              rw [← hr, cntGo, if_pos hbx]
              exact FE
            | false =>
              have := badDim_f hbx
              (repeat refine stp ?_)
              refine ⟨_, ?_, k + 1, n * x, rd, rd, rd, rd, rd, rfl, ?_, by omega, by omega, by omega⟩
              · omega
              · rw [← hr, cntGo, if_neg (by simp [hbx])]
          · have hke : k = s.length := by omega
            subst hke
            (repeat refine stp ?_)
            rw [← hr, List.drop_length, cntGo]
            exact FE
end Go.Proofs.YtfdeheodjkpkkaaGreatDoor.V
namespace Go.Proofs.YtfdeheodjkpkkaaGreatDoor.V
open Go Go.Proofs Go.Proofs.Ev Go.Proofs.YtfdeheodjkpkkaaGreatDoor Go.Proofs.YtfdeheodjkpkkaaGreatDoor.Sp Go.Proofs.YtfdeheodjkpkkaaGreatDoor.Ba
set_option maxHeartbeats 4000000
set_option maxRecDepth 100000
set_option linter.unusedSimpArgs false
set_option linter.unusedVariables false
set_option linter.unusedSectionVars false
theorem wrongs_int (l : List Int) (hn : l.length ≤ 1099511627776) (g : Nat) (caps : List PV) (hcap : plainA (.fn g caps) = true) (hok : okF Tryz.prog g = true) (p : Int → Bool) (hp : ∀ x ∈ l, Den Tryz.prog g ([.int .i64 x] ++ caps) [] (.bool (p x)) [] []) : Den Tryz.prog 215 [.ro (l.map eI), .fn g caps] [] (.bool (l.any fun x => !p x)) [] [] := by
  (refine den_walk mix Tryz.func215 rfl (by kernel_rfl) rfl [.tmp 4] rfl (by simp) ?_; simp only [bodyOf, Tryz.f215])
  (repeat refine stp ?_)
  refine Run_loop (fun m σ => ∃ k : Nat, σ.t 7 = .ro (l.map eI) ∧ σ.t 1 = .fn g caps ∧ σ.t 8 = .int .i64 l.length ∧ σ.t 9 = .int .i64 k ∧ m = l.length - k ∧ ((l.drop k).any fun x => !p x) = (l.any fun x => !p x) ∧ k ≤ l.length) l.length ?_ ?_
  · exact ⟨0, rd, rd, rd, rd, rfl, rfl, by omega⟩
  · rintro m σ ⟨k, h7, h1, h8, h9, rfl, hr, hk⟩
    by_cases hl : k < l.length
    · obtain ⟨s, hs⟩ : ∃ s, l[k]? = some s := ⟨_, List.getElem?_eq_getElem hl⟩
      rw [drop_get hs, List.any_cons] at hr
      (repeat refine stp ?_)
      have hm : s ∈ l := List.mem_of_getElem? hs
      have hca := plainA_caps hcap
      (refine RC (hp s hm) ?_)
      cases hps : p s with
      | false =>
        rw [hps] at hr
        simp only [Bool.not_false, Bool.true_or] at hr
        rw [← hr]
        clear hr
        (repeat refine stp ?_)
        exact FE
      | true =>
        rw [hps] at hr
        simp only [Bool.not_true, Bool.false_or] at hr
        (repeat refine stp ?_)
        exact ⟨_, by omega, k + 1, rd, rd, rd, rd, rfl, hr, by omega⟩
    · have hke : k = l.length := by omega
      subst hke
      (repeat refine stp ?_)
      rw [← hr, List.drop_length, List.any_nil]
      clear hr
      exact FE
theorem wrongs_dec (l : List Sp.Dec) (hn : l.length ≤ 1099511627776) (g : Nat) (caps : List PV) (hcap : plainA (.fn g caps) = true) (hok : okF Tryz.prog g = true) (p : Sp.Dec → Bool) (hp : ∀ x ∈ l, Den Tryz.prog g ([.agg [.int .i64 x.f0, .int .i64 x.f1]] ++ caps) [] (.bool (p x)) [] []) : Den Tryz.prog 216 [.ro (l.map eD), .fn g caps] [] (.bool (l.any fun x => !p x)) [] [] := by
  (refine den_walk mix Tryz.func216 rfl (by kernel_rfl) rfl [.tmp 4] rfl (by simp) ?_; simp only [bodyOf, Tryz.f216])
  (repeat refine stp ?_)
  refine Run_loop (fun m σ => ∃ k : Nat, σ.t 7 = .ro (l.map eD) ∧ σ.t 1 = .fn g caps ∧ σ.t 8 = .int .i64 l.length ∧ σ.t 9 = .int .i64 k ∧ m = l.length - k ∧ ((l.drop k).any fun x => !p x) = (l.any fun x => !p x) ∧ k ≤ l.length) l.length ?_ ?_
  · exact ⟨0, rd, rd, rd, rd, rfl, rfl, by omega⟩
  · rintro m σ ⟨k, h7, h1, h8, h9, rfl, hr, hk⟩
    by_cases hl : k < l.length
    · obtain ⟨s, hs⟩ : ∃ s, l[k]? = some s := ⟨_, List.getElem?_eq_getElem hl⟩
      rw [drop_get hs, List.any_cons] at hr
      (repeat refine stp ?_)
      have hm : s ∈ l := List.mem_of_getElem? hs
      have hca := plainA_caps hcap
      (refine RC (hp s hm) ?_)
      cases hps : p s with
      | false =>
        rw [hps] at hr
        simp only [Bool.not_false, Bool.true_or] at hr
        rw [← hr]
        clear hr
        (repeat refine stp ?_)
        exact FE
      | true =>
        rw [hps] at hr
        simp only [Bool.not_true, Bool.false_or] at hr
        (repeat refine stp ?_)
        exact ⟨_, by omega, k + 1, rd, rd, rd, rd, rfl, hr, by omega⟩
    · have hke : k = l.length := by omega
      subst hke
      (repeat refine stp ?_)
      rw [← hr, List.drop_length, List.any_nil]
      clear hr
      exact FE
end Go.Proofs.YtfdeheodjkpkkaaGreatDoor.V
namespace Go.Proofs.YtfdeheodjkpkkaaGreatDoor.V
open Go Go.Proofs Go.Proofs.Ev Go.Proofs.YtfdeheodjkpkkaaGreatDoor Go.Proofs.YtfdeheodjkpkkaaGreatDoor.Sp Go.Proofs.YtfdeheodjkpkkaaGreatDoor.Ba
set_option maxHeartbeats 4000000
set_option maxRecDepth 100000
set_option linter.unusedSimpArgs false
set_option linter.unusedVariables false
set_option linter.unusedSectionVars false
theorem fit_den (n : Sp.Nd) (v : Int) : Den Tryz.prog 213 [.int .i64 v, .rp (eN n) 0] [] (.bool (fitsB n.f0 v)) [] [] := by
  (refine den_walk mix Tryz.func213 rfl (by kernel_rfl) rfl [.tmp 3] rfl (by simp) ?_; simp only [bodyOf, Tryz.f213])
  (repeat refine stp ?_)
  (refine RC (fits_den n.f0 v) ?_)
  (repeat refine stp ?_)
  exact FE
theorem items_den (n : Sp.Nd) (h : wfN n) : Den Tryz.prog 176 [.agg (eN n)] [] (.int .i64 (Sp.items n)) [] [] := by
  (refine den_walk mix Tryz.func176 rfl (by kernel_rfl) rfl [.tmp 2] rfl (by simp) ?_; simp only [bodyOf, Tryz.f176])
  simp only [RW]
  refine R1 ?_
  refine RZ (.loc 1 0) ?_
  (repeat refine stp ?_)
  (refine RC (count_den n.f1 h.ls) ?_)
  cases hc : (cnt n.f1).2 with
  | false =>
    have e : Sp.items n = -1 := by unfold Sp.items; rw [if_pos hc]
    rw [e]
    (repeat refine stp ?_)
    exact FE
  | true =>
    have hle := cnt_le n.f1
    (repeat refine stp ?_)
    refine Run_mid 3 (fun τ => ∃ i d : Int, τ.t 1 = .rp (eN n) 0 ∧ τ.t 3 = .int .i64 (cnt n.f1).1 ∧ τ.t 5 = .int .i64 i ∧ τ.t 6 = .int .i64 d ∧ wants n.f0 (cnt n.f1).1 = some (i, d)) ?_ ?_
    · simp only [List.take_succ_cons, List.take_zero, List.drop_succ_cons, List.drop_zero, List.cons_append, List.nil_append]
      by_cases k1 : n.f0 = 1
      · (repeat refine stp ?_)
        exact ⟨(cnt n.f1).1, 0, rd, rd, rd, rd, by simp [wants, k1]⟩
      by_cases k2 : n.f0 = 2
      · (repeat refine stp ?_)
        exact ⟨(cnt n.f1).1, 0, rd, rd, rd, rd, by simp [wants, k2]⟩
      by_cases k3 : n.f0 = 3
      · (repeat refine stp ?_)
        exact ⟨(cnt n.f1).1, 0, rd, rd, rd, rd, by simp [wants, k3]⟩
      by_cases k4 : n.f0 = 4
      · (repeat refine stp ?_)
        exact ⟨0, (cnt n.f1).1, rd, rd, rd, rd, by simp [wants, k4]⟩
      by_cases k5 : n.f0 = 5
      · (repeat refine stp ?_)
        exact ⟨0, 0, rd, rd, rd, rd, by simp [wants, k5]⟩
      · have e : Sp.items n = -1 := by unfold Sp.items; simp [hc, wants, k1, k2, k3, k4, k5]
        rw [e]
        (repeat refine stp ?_)
        exact FE
    · simp only [List.drop_succ_cons, List.drop_zero]
      rintro τ ⟨i, d, h1, h3, h5, h6, hw⟩
      have e0 : Sp.items n = if (n.f2.length : Int) ≠ i then -1 else if (n.f3.length : Int) ≠ d then -1 else if n.f2.any (fun x => !fitsB n.f0 x) then -1 else if n.f3.any (fun x => !rightB x) then -1 else (cnt n.f1).1 := by
        unfold Sp.items
        rw [if_neg (by simp [hc]), hw]
      rw [e0]
      clear e0 hw
      by_cases c1 : (n.f2.length : Int) ≠ i
      · rw [if_pos c1]
        (repeat refine stp ?_)
        exact FE
      rw [if_neg c1]
      by_cases c2 : (n.f3.length : Int) ≠ d
      · rw [if_pos c2]
        (repeat refine stp ?_)
        exact FE
      rw [if_neg c2]
      (repeat refine stp ?_)
      (refine RC (wrongs_int n.f2 h.li _ [.rp (eN n) 0] rfl (by kernel_rfl) (fitsB n.f0) (fun x _ => fit_den n x)) ?_)
      cases c3 : n.f2.any (fun x => !fitsB n.f0 x) with
      | true =>
        rw [if_pos rfl]
        (repeat refine stp ?_)
        exact FE
      | false =>
        rw [if_neg (by simp)]
        (repeat refine stp ?_)
        (refine RC (wrongs_dec n.f3 h.ld _ [] rfl (by kernel_rfl) rightB (fun x hx => right_den x (h.d x hx))) ?_)
        cases c4 : n.f3.any (fun x => !rightB x) with
        | true =>
          rw [if_pos rfl]
          (repeat refine stp ?_)
          exact FE
        | false =>
          rw [if_neg (by simp)]
          (repeat refine stp ?_)
          exact FE
end Go.Proofs.YtfdeheodjkpkkaaGreatDoor.V
namespace Go.Proofs.YtfdeheodjkpkkaaGreatDoor.V
open Go Go.Proofs Go.Proofs.Ev Go.Proofs.YtfdeheodjkpkkaaGreatDoor Go.Proofs.YtfdeheodjkpkkaaGreatDoor.Sp Go.Proofs.YtfdeheodjkpkkaaGreatDoor.Ba
set_option maxHeartbeats 4000000
set_option maxRecDepth 100000
set_option linter.unusedSimpArgs false
set_option linter.unusedVariables false
set_option linter.unusedSectionVars false
/-- A stack as it lies: the last one on top. -/
def Stk (rs : List (List PV)) (st : List Int) : Prop := rs.take st.length = st.reverse.map eI ∧ st.length ≤ rs.length
theorem Stk.top {rs : List (List PV)} {y : Int} {r : List Int} (h : Stk rs (y :: r)) : rs[r.length]? = some (eI y) ∧ r.length < rs.length ∧ Stk rs r := by
  obtain ⟨h1, h2⟩ := h
  rw [List.length_cons] at h1 h2
  have h3 : (rs.take (r.length + 1))[r.length]? = some (eI y) := by
    rw [h1]
    simp
  rw [List.getElem?_take, if_pos (by omega)] at h3
  refine ⟨h3, by omega, ?_, by omega⟩
  have := congrArg (List.take r.length) h1
  rw [List.take_take, Nat.min_eq_left (by omega)] at this
  rw [this]
  simp
theorem Stk.set {rs : List (List PV)} {z : Int} {r : List Int} (h : Stk rs r) (hl : r.length < rs.length) : Stk (rs.set r.length (eI z)) (z :: r) := by
  obtain ⟨h1, h2⟩ := h
  refine ⟨?_, by simp; omega⟩
  refine List.ext_getElem? (fun i => ?_)
  rw [List.length_cons, List.getElem?_take]
  by_cases hi : i < r.length
  · rw [if_pos (by omega), List.getElem?_set_ne (by omega)]
    have := congrArg (fun l => l[i]?) h1
    simp only [List.getElem?_take, if_pos hi] at this
    rw [this]
    simp [List.getElem?_append_left, hi]
  · by_cases he : i = r.length
    · subst he
      rw [if_pos (by omega), List.getElem?_set_self hl]
      simp
    · rw [if_neg (by omega)]
      rw [List.getElem?_eq_none (by simp; omega)]
theorem Stk.push {rs : List (List PV)} {c : Int} {st : List Int} (h : Stk rs st) : Stk (rs.take st.length ++ [eI c]) (c :: st) := by
  obtain ⟨h1, h2⟩ := h
  refine ⟨?_, by simp; omega⟩
  rw [h1, List.take_of_length_le (by simp)]
  simp
theorem push_nest {n : Sp.Nd} {c : Int} {st : List Int} (h : n.f0 = 5) : push n c st = c :: st := by unfold push; rw [if_pos h]
theorem push_leaf {n : Sp.Nd} {c y : Int} {r : List Int} (h : ¬ n.f0 = 5) : push n c (y :: r) = (y - 1) :: r := by unfold push; rw [if_neg h]
theorem push_none {n : Sp.Nd} {c : Int} (h : ¬ n.f0 = 5) : push n c [] = [] := by unfold push; rw [if_neg h]
theorem walk_den (a : List Sp.Nd) (ha : a.length ≤ 1099511627776) (hw : ∀ n ∈ a, wfN n) : Den Tryz.prog 119 [.ro (a.map eN)] [] (.tup [.int .i64 (walk a).1, .int .i64 (walk a).2.1, .int .i64 (walk a).2.2]) [] [] := by
  (refine den_walk mix Tryz.func119 rfl (by kernel_rfl) rfl [.tmp 2, .tmp 3, .tmp 4] rfl (by simp) ?_; simp only [bodyOf, Tryz.f119])
  (repeat refine stp ?_)
  refine Run_loop (fun m σ => ∃ (k : Nat) (all deep : Int) (st : List Int) (v : Nat) (rs : List (List PV)), σ.t 9 = .ro (a.map eN) ∧ σ.t 10 = .int .i64 a.length ∧ σ.t 11 = .int .i64 k ∧ σ.t 3 = .int .i64 all ∧ σ.t 4 = .int .i64 deep ∧ σ.t 5 = .own (.loc 5 0) v st.length ∧ σ.m (.loc 5 0) = ⟨v, some (.rows true 3 1 rs)⟩ ∧
    Stk rs st ∧ m = a.length - k ∧ walkL (a.drop k) k all deep st = walk a ∧ k ≤ a.length ∧ Ge1 st ∧ st.length ≤ 16 ∧ 0 ≤ all ∧ all ≤ 1048576 ∧ 0 ≤ deep ∧ deep ≤ 17) a.length ?_ ?_
  · exact ⟨0, 0, 0, [], _, [], rd, rd, rd, rd, rd, rd, rfl, ⟨rfl, Nat.le_refl 0⟩, rfl, rfl, by omega, (fun y hy => by cases hy), (by simp : ([] : List Int).length ≤ 16), by omega, by omega, by omega, by omega⟩
  · rintro m σ ⟨k, all, deep, st, v, rs, h9, h10, h11, h3, h4, h5, hm, hS, rfl, hr, hk, hg, hst, ha0, ha1, hd0, hd1⟩
    by_cases hl : k < a.length
    · obtain ⟨n, hs⟩ : ∃ n, a[k]? = some n := ⟨_, List.getElem?_eq_getElem hl⟩
      rw [drop_get hs, walkL] at hr
      have hwn := hw n (List.mem_of_getElem? hs)
      have hit := items_le n
      (repeat refine stp ?_)
      (refine RC (items_den n hwn) ?_)
      generalize items n = c at *
      by_cases c1 : c < 0
      · rw [if_pos (.inl c1)] at hr
        rw [← hr]
        clear hr
        (repeat refine stp ?_)
        exact FE
      by_cases c2 : all + c > 1048576
      · rw [if_pos (.inr (.inl c2))] at hr
        rw [← hr]
        clear hr
        (repeat refine stp ?_)
        exact FE
      by_cases c3 : st.length ≥ 16
      · rw [if_pos (.inr (.inr c3))] at hr
        rw [← hr]
        clear hr
        (repeat refine stp ?_)
        exact FE
      rw [if_neg (by omega)] at hr
      generalize hR : walk a = R at *
      clear hR
      replace hr := Asd.mk hr
      (repeat refine stp ?_)
      have hmx : (if deep < (st.length : Int) + 1 then (st.length : Int) + 1 else deep) = max deep ((st.length : Int) + 1) := by omega
      have hD1 : 0 ≤ max deep ((st.length : Int) + 1) ∧ max deep ((st.length : Int) + 1) ≤ 17 := by omega
      generalize max deep ((st.length : Int) + 1) = D at *
      have hS2 := hS.2
      refine Run_mid 1 (fun τ => ∃ (v : Nat) (rs : List (List PV)), τ.t 9 = .ro (a.map eN) ∧ τ.t 10 = .int .i64 a.length ∧ τ.t 11 = .int .i64 k ∧ τ.t 3 = .int .i64 (all + c) ∧ τ.t 4 = .int .i64 D ∧ τ.t 6 = .int .i64 k ∧ τ.t 5 = .own (.loc 5 0) v (push n c st).length ∧ τ.m (.loc 5 0) = ⟨v, some (.rows true 3 1 rs)⟩ ∧ Stk rs (push n c st)) ?_ ?_
      · simp only [List.take_succ_cons, List.take_zero, List.drop_succ_cons, List.drop_zero, List.cons_append, List.nil_append]
        by_cases k5 : n.f0 = 5
        · rw [push_nest k5]
          (repeat refine stp ?_)
          exact ⟨_, _, rd, rd, rd, rd, rd, rd, rd, rdm, hS.push⟩
        · cases st with
          | nil =>
            rw [push_none k5]
            simp only [go_sem, Int.reduceAdd] at hmx
            (repeat refine stp ?_)
            exact ⟨_, _, rd, rd, rd, rd, rd, rd, rd, rdm, hS⟩
          | cons y r =>
            rw [push_leaf k5]
            obtain ⟨q1, q2, q3⟩ := hS.top
            have hy := hg y (by simp)
            simp only [go_sem, Int.reduceAdd] at hmx
            have q4 : ((r.length : Int) + 1 - 1).toNat = r.length := by omega
            (repeat refine stp ?_)
            exact ⟨_, _, rd, rd, rd, rd, rd, rd, rd, rdm, q3.set q2⟩
      · simp only [List.drop_succ_cons, List.drop_zero]
        rintro τ ⟨v, rs, h9, h10, h11, h3, h4, h6, h5, hm, hS⟩
        have hg2 : (∀ y ∈ (push n c st).tail, 1 ≤ y ∧ y ≤ 1048576) ∧ (push n c st).length ≤ 16 ∧ (∀ y ∈ push n c st, 0 ≤ y ∧ y ≤ 1048576) := by
          by_cases k5 : n.f0 = 5
          · rw [push_nest k5]
            refine ⟨(fun y hy => hg y hy), (by simp; omega), (fun y hy => ?_)⟩
            rcases List.mem_cons.1 hy with rfl | hy
            · omega
            · have := hg y hy; omega
          · cases st with
            | nil => rw [push_none k5]; exact ⟨(fun y hy => by cases hy), (by simp), (fun y hy => by cases hy)⟩
            | cons z r =>
              rw [push_leaf k5]
              simp only [List.length_cons] at hst
              refine ⟨(fun y hy => hg y (by simp [show y ∈ r from hy])), (by simp; omega), (fun y hy => ?_)⟩
              have hz := hg z (by simp)
              rcases List.mem_cons.1 hy with rfl | hy
              · omega
              · have := hg y (by simp [hy]); omega
        clear hg hst hS2 hmx c3
        generalize push n c st = st1 at *
        obtain ⟨g1, g2, g3⟩ := hg2
        (repeat refine stp ?_)
        refine Run_loop (fun m τ => ∃ (st2 : List Int) (v : Nat) (rs : List (List PV)), τ.t 9 = .ro (a.map eN) ∧ τ.t 10 = .int .i64 a.length ∧ τ.t 11 = .int .i64 k ∧ τ.t 3 = .int .i64 (all + c) ∧ τ.t 4 = .int .i64 D ∧ τ.t 6 = .int .i64 k ∧ τ.t 5 = .own (.loc 5 0) v st2.length ∧ τ.m (.loc 5 0) = ⟨v, some (.rows true 3 1 rs)⟩ ∧ Stk rs st2 ∧
          m = st2.length ∧ pops st2 = pops st1 ∧ (∀ y ∈ st2.tail, 1 ≤ y ∧ y ≤ 1048576) ∧ st2.length ≤ 16 ∧ (∀ y ∈ st2, 0 ≤ y ∧ y ≤ 1048576)) st1.length ?_ ?_
        · exact ⟨st1, v, rs, rd, rd, rd, rd, rd, rd, rd, rdm, hS, rfl, rfl, g1, g2, g3⟩
        clear h9 h10 h11 h3 h4 h5 h6 hm hS g1 g2 g3
        rintro m ρ ⟨st2, v, rs, h9, h10, h11, h3, h4, h6, h5, hm, hS, rfl, hp, g1, g2, g3⟩
        cases st2 with
        | nil =>
          have hr := hr.out
          rw [if_pos (by rw [← hp]; rfl)] at hr
          rw [← hr]
          clear hr hp g1 g2 g3
          (repeat refine stp ?_)
          exact FE
        | cons x r =>
          obtain ⟨q1, q2, q3⟩ := hS.top
          have q4 : ((r.length : Int) + 1 - 1).toNat = r.length := by omega
          simp only [List.tail_cons] at g1
          simp only [List.length_cons] at g2
          have hx := g3 x (by simp)
          by_cases hx0 : x = 0
          · subst hx0
            (repeat refine stp ?_)
            cases r with
            | nil =>
              (repeat refine stp ?_)
              exact ⟨_, (by simp : 0 < ([0] : List Int).length), [], v, rs, rd, rd, rd, rd, rd, rd, rd, rdm, q3, rfl, (by rw [← hp]; rfl), g1, by simp, (fun y hy => by cases hy)⟩
            | cons y r =>
              obtain ⟨q5, q6, q7⟩ := q3.top
              have hy := g1 y (by simp)
              have q8 : ((r.length : Int) + 1 - 1).toNat = r.length := by omega
              clear q1 q2 q4
              simp only [List.length_cons] at g2
              (repeat refine stp ?_)
              exact ⟨_, (by simp : (y :: r).length < (0 :: y :: r).length), (y - 1) :: r, v, _, rd, rd, rd, rd, rd, rd, rd, rdm, q7.set q6, by simp, (by rw [← hp, pops_two]), (fun z hz => g1 z (by simp [show z ∈ r from hz])), (by simp only [List.length_cons]; omega), (fun z hz => by
                rcases List.mem_cons.1 hz with rfl | hz
                · omega
                · have := g1 z (by simp [hz]); omega)⟩
          · have hr := hr.out
            rw [← hp, pops_stop r hx0, if_neg (by simp)] at hr
            replace hr := Asd.mk hr
            (repeat refine stp ?_)
            refine ⟨_, ?_, k + 1, all + c, D, x :: r, v, rs, rd, rd, rd, rd, rd, rd, rdm, hS, rfl, ?_, by omega, ?_, ?_, by omega, by omega, by omega, by omega⟩
            · omega
            · rw [← hr.out]; simp
            · intro z hz
              rcases List.mem_cons.1 hz with rfl | hz
              · omega
              · exact g1 z hz
            · simp only [List.length_cons]; omega
    · have hke : k = a.length := by omega
      subst hke
      rw [List.drop_length, walkL] at hr
      rw [← hr]
      clear hr
      (repeat refine stp ?_)
      exact FE
end Go.Proofs.YtfdeheodjkpkkaaGreatDoor.V
namespace Go.Proofs.YtfdeheodjkpkkaaGreatDoor.V
open Go Go.Proofs Go.Proofs.Ev Go.Proofs.YtfdeheodjkpkkaaGreatDoor Go.Proofs.YtfdeheodjkpkkaaGreatDoor.Sp Go.Proofs.YtfdeheodjkpkkaaGreatDoor.Ba
set_option maxHeartbeats 4000000
set_option maxRecDepth 100000
set_option linter.unusedSimpArgs false
set_option linter.unusedVariables false
set_option linter.unusedSectionVars false
theorem take_den (a : List Sp.Nd) (ha : a.length ≤ 1099511627776) (hw : ∀ n ∈ a, wfN n) : Den Tryz.prog 79 [.ro (a.map eN)] [] (.int .i64 (takeL a)) [] [] := by
  (refine den_walk mix Tryz.func79 rfl (by kernel_rfl) rfl [.tmp 2] rfl (by simp) ?_; simp only [bodyOf, Tryz.f79])
  (repeat refine stp ?_)
  (refine RC (walk_den a ha hw) ?_)
  unfold takeL
  (repeat refine stp ?_)
  exact FE
theorem right_arr (a : List Sp.Nd) (ha : a.length ≤ 1099511627776) (hw : ∀ n ∈ a, wfN n) : Den Tryz.prog 78 [.ro (a.map eN)] [] (.bool (rightL a)) [] [] := by
  (refine den_walk mix Tryz.func78 rfl (by kernel_rfl) rfl [.tmp 2] rfl (by simp) ?_; simp only [bodyOf, Tryz.f78])
  by_cases h0 : 0 < a.length
  · have e : rightL a = (takeL a == (a.length : Int)) := by unfold rightL; rw [decide_eq_true h0, Bool.true_and, Bool.eq_iff_iff]; simp
    rw [e]
    (repeat refine stp ?_)
    (refine RC (take_den a ha hw) ?_)
    (repeat refine stp ?_)
    exact FE
  · have e : rightL a = false := by unfold rightL; rw [decide_eq_false h0, Bool.false_and]
    rw [e]
    (repeat refine stp ?_)
    exact FE
theorem items_arr (a : List Sp.Nd) (ha : a.length ≤ 1099511627776) (hw : ∀ n ∈ a, wfN n) : Den Tryz.prog 64 [.ro (a.map eN)] [] (.int .i64 (itemsL a)) [] [] := by
  (refine den_walk mix Tryz.func64 rfl (by kernel_rfl) rfl [.tmp 2] rfl (by simp) ?_; simp only [bodyOf, Tryz.f64])
  (repeat refine stp ?_)
  (refine RC (walk_den a ha hw) ?_)
  by_cases h : (walk a).1 = a.length
  · have e : itemsL a = (walk a).2.1 := by unfold itemsL takeL; rw [if_pos h]
    rw [e]
    (repeat refine stp ?_)
    exact FE
  · have e : itemsL a = 0 := by unfold itemsL takeL; rw [if_neg h]
    rw [e]
    (repeat refine stp ?_)
    exact FE
theorem depth_arr (a : List Sp.Nd) (ha : a.length ≤ 1099511627776) (hw : ∀ n ∈ a, wfN n) : Den Tryz.prog 63 [.ro (a.map eN)] [] (.int .i64 (depthL a)) [] [] := by
  (refine den_walk mix Tryz.func63 rfl (by kernel_rfl) rfl [.tmp 2] rfl (by simp) ?_; simp only [bodyOf, Tryz.f63])
  (repeat refine stp ?_)
  (refine RC (walk_den a ha hw) ?_)
  by_cases h : (walk a).1 = a.length
  · have e : depthL a = (walk a).2.2 := by unfold depthL takeL; rw [if_pos h]
    rw [e]
    (repeat refine stp ?_)
    exact FE
  · have e : depthL a = 0 := by unfold depthL takeL; rw [if_neg h]
    rw [e]
    (repeat refine stp ?_)
    exact FE
end Go.Proofs.YtfdeheodjkpkkaaGreatDoor.V
namespace Go.Proofs.YtfdeheodjkpkkaaGreatDoor.V
open Go Go.Proofs Go.Proofs.Ev Go.Proofs.YtfdeheodjkpkkaaGreatDoor Go.Proofs.YtfdeheodjkpkkaaGreatDoor.Sp Go.Proofs.YtfdeheodjkpkkaaGreatDoor.Ba
set_option maxHeartbeats 4000000
set_option maxRecDepth 100000
set_option linter.unusedSimpArgs false
set_option linter.unusedVariables false
set_option linter.unusedSectionVars false
theorem rank_arr (a : List Sp.Nd) (ha : a.length ≤ 1099511627776) (hw : ∀ n ∈ a, wfN n) : Den Tryz.prog 62 [.ro (a.map eN)] [] (.int .i64 (rankL a)) [] [] := by
  (refine den_walk mix Tryz.func62 rfl (by kernel_rfl) rfl [.tmp 2] rfl (by simp) ?_; simp only [bodyOf, Tryz.f62])
  (repeat refine stp ?_)
  (refine RC (right_arr a ha hw) ?_)
  cases hR : rightL a with
  | false =>
    have e : rankL a = 0 := by unfold rankL; rw [hR]; rfl
    rw [e]
    (repeat refine stp ?_)
    exact FE
  | true =>
    have e : rankL a = rankGo 0 a := by unfold rankL; rw [hR]; rfl
    rw [e]
    (repeat refine stp ?_)
    refine Run_loop (fun m σ => ∃ (k : Nat) (q : Int), σ.t 8 = .ro (a.map eN) ∧ σ.t 9 = .int .i64 a.length ∧ σ.t 10 = .int .i64 k ∧ σ.t 2 = .int .i64 q ∧ m = a.length - k ∧ rankGo q (a.drop k) = rankGo 0 a ∧ k ≤ a.length) a.length ?_ ?_
    · exact ⟨0, 0, rd, rd, rd, rd, rfl, rfl, by omega⟩
    · rintro m σ ⟨k, q, h8, h9, h10, h2, rfl, hr, hk⟩
      by_cases hl : k < a.length
      · obtain ⟨n, hs⟩ : ∃ n, a[k]? = some n := ⟨_, List.getElem?_eq_getElem hl⟩
        rw [drop_get hs, rankGo, List.foldl_cons] at hr
        replace hr := Asd.mk hr
        have hmx : (if q < (n.f1.length : Int) then (n.f1.length : Int) else q) = max q (n.f1.length : Int) := by omega
        (repeat refine stp ?_)
        exact ⟨_, by omega, k + 1, max q (n.f1.length : Int), rd, rd, rd, rd, rfl, hr.out, by omega⟩
      · have hke : k = a.length := by omega
        subst hke
        rw [List.drop_length, rankGo, List.foldl_nil] at hr
        rw [← hr]
        clear hr
        (repeat refine stp ?_)
        exact FE
end Go.Proofs.YtfdeheodjkpkkaaGreatDoor.V
namespace Go.Proofs.YtfdeheodjkpkkaaGreatDoor.V
open Go Go.Proofs Go.Proofs.Ev Go.Proofs.YtfdeheodjkpkkaaGreatDoor Go.Proofs.YtfdeheodjkpkkaaGreatDoor.Sp Go.Proofs.YtfdeheodjkpkkaaGreatDoor.Ba
set_option maxHeartbeats 4000000
set_option maxRecDepth 100000
set_option linter.unusedSimpArgs false
set_option linter.unusedVariables false
set_option linter.unusedSectionVars false
def eqBy {α : Type} (p : α → α → Bool) : List α → List α → Bool
  | x :: l, y :: r => p x y && eqBy p l r
  | _, _ => true
/-- Two rows are the same. -/
def same {α : Type} (p : α → α → Bool) (a b : List α) : Bool := decide (a.length = b.length) && eqBy p a b
def pI (x y : Int) : Bool := x == y
def pD (x y : Sp.Dec) : Bool := x.f0 == y.f0 && x.f1 == y.f1
def pS (x y : ByteArray) : Bool := x.toList == y.toList
theorem equal_int (a b : List Int) (ha : a.length ≤ 1099511627776) (hb : b.length ≤ 1099511627776) : Den Tryz.prog 123 [.ro (a.map eI), .ro (b.map eI)] [] (.bool (same pI a b)) [] [] := by
  (refine den_walk mix Tryz.func123 rfl (by kernel_rfl) rfl [.tmp 4] rfl (by simp) ?_; simp only [bodyOf, Tryz.f123])
  unfold same
  by_cases hl : a.length = b.length
  · rw [decide_eq_true hl, Bool.true_and]
    (repeat refine stp ?_)
    refine Run_loop (fun m σ => ∃ k : Nat, σ.t 0 = .ro (a.map eI) ∧ σ.t 1 = .ro (b.map eI) ∧ σ.t 12 = .int .i64 a.length ∧ σ.t 13 = .int .i64 k ∧ m = a.length - k ∧ eqBy pI (a.drop k) (b.drop k) = eqBy pI a b ∧ k ≤ a.length) a.length ?_ ?_
    · exact ⟨0, rd, rd, rd, rd, rfl, rfl, by omega⟩
    · rintro m σ ⟨k, h0, h1, h12, h13, rfl, hr, hk⟩
      by_cases hk1 : k < a.length
      · obtain ⟨x, hx⟩ : ∃ x, a[k]? = some x := ⟨_, List.getElem?_eq_getElem hk1⟩
        obtain ⟨y, hy⟩ : ∃ y, b[k]? = some y := ⟨_, List.getElem?_eq_getElem (by omega)⟩
        rw [drop_get hx, drop_get hy, eqBy] at hr
        by_cases c0 : x = y
        · skip
          have e : pI x y = true := by simp [pI, c0]
          rw [e, Bool.true_and] at hr
          clear e
          replace hr := Asd.mk hr
          (repeat refine stp ?_)
          exact ⟨_, by omega, k + 1, rd, rd, rd, rd, rfl, hr.out, by omega⟩
        · skip
          have e : pI x y = false := by simp [pI, c0]
          rw [e, Bool.false_and] at hr
          clear e
          rw [← hr]
          clear hr
          (repeat refine stp ?_)
          exact FE
      · have hke : k = a.length := by omega
        subst hke
        rw [List.drop_length, eqBy] at hr
        rw [← hr]
        clear hr
        (repeat refine stp ?_)
        exact FE
        intros; simp_all
  · rw [decide_eq_false hl, Bool.false_and]
    (repeat refine stp ?_)
    exact FE
theorem equal_dec (a b : List Sp.Dec) (ha : a.length ≤ 1099511627776) (hb : b.length ≤ 1099511627776) : Den Tryz.prog 124 [.ro (a.map eD), .ro (b.map eD)] [] (.bool (same pD a b)) [] [] := by
  (refine den_walk mix Tryz.func124 rfl (by kernel_rfl) rfl [.tmp 4] rfl (by simp) ?_; simp only [bodyOf, Tryz.f124])
  unfold same
  by_cases hl : a.length = b.length
  · rw [decide_eq_true hl, Bool.true_and]
    (repeat refine stp ?_)
    refine Run_loop (fun m σ => ∃ k : Nat, σ.t 0 = .ro (a.map eD) ∧ σ.t 1 = .ro (b.map eD) ∧ σ.t 12 = .int .i64 a.length ∧ σ.t 13 = .int .i64 k ∧ m = a.length - k ∧ eqBy pD (a.drop k) (b.drop k) = eqBy pD a b ∧ k ≤ a.length) a.length ?_ ?_
    · exact ⟨0, rd, rd, rd, rd, rfl, rfl, by omega⟩
    · rintro m σ ⟨k, h0, h1, h12, h13, rfl, hr, hk⟩
      by_cases hk1 : k < a.length
      · obtain ⟨x, hx⟩ : ∃ x, a[k]? = some x := ⟨_, List.getElem?_eq_getElem hk1⟩
        obtain ⟨y, hy⟩ : ∃ y, b[k]? = some y := ⟨_, List.getElem?_eq_getElem (by omega)⟩
        rw [drop_get hx, drop_get hy, eqBy] at hr
        cases c0 : (x.f0 == y.f0) with
        | true =>
          cases c1 : (x.f1 == y.f1) with
          | true =>
            have e : pD x y = true := by simp [pD, c0, c1]
            rw [e, Bool.true_and] at hr
            clear e
            replace hr := Asd.mk hr
            (repeat refine stp ?_)
            exact ⟨_, by omega, k + 1, rd, rd, rd, rd, rfl, hr.out, by omega⟩
          | false =>
            have e : pD x y = false := by simp [pD, c0, c1]
            rw [e, Bool.false_and] at hr
            clear e
            rw [← hr]
            clear hr
            (repeat refine stp ?_)
            exact FE
        | false =>
          cases c1 : (x.f1 == y.f1) with
          | true =>
            have e : pD x y = false := by simp [pD, c0, c1]
            rw [e, Bool.false_and] at hr
            clear e
            rw [← hr]
            clear hr
            (repeat refine stp ?_)
            exact FE
          | false =>
            have e : pD x y = false := by simp [pD, c0, c1]
            rw [e, Bool.false_and] at hr
            clear e
            rw [← hr]
            clear hr
            (repeat refine stp ?_)
            exact FE
      · have hke : k = a.length := by omega
        subst hke
        rw [List.drop_length, eqBy] at hr
        rw [← hr]
        clear hr
        (repeat refine stp ?_)
        exact FE
        intros; simp_all
  · rw [decide_eq_false hl, Bool.false_and]
    (repeat refine stp ?_)
    exact FE
theorem equal_str (a b : List ByteArray) (ha : a.length ≤ 1099511627776) (hb : b.length ≤ 1099511627776) : Den Tryz.prog 71 [.ro (a.map eS), .ro (b.map eS)] [] (.bool (same pS a b)) [] [] := by
  (refine den_walk mix Tryz.func71 rfl (by kernel_rfl) rfl [.tmp 4] rfl (by simp) ?_; simp only [bodyOf, Tryz.f71])
  unfold same
  by_cases hl : a.length = b.length
  · rw [decide_eq_true hl, Bool.true_and]
    (repeat refine stp ?_)
    refine Run_loop (fun m σ => ∃ k : Nat, σ.t 0 = .ro (a.map eS) ∧ σ.t 1 = .ro (b.map eS) ∧ σ.t 12 = .int .i64 a.length ∧ σ.t 13 = .int .i64 k ∧ m = a.length - k ∧ eqBy pS (a.drop k) (b.drop k) = eqBy pS a b ∧ k ≤ a.length) a.length ?_ ?_
    · exact ⟨0, rd, rd, rd, rd, rfl, rfl, by omega⟩
    · rintro m σ ⟨k, h0, h1, h12, h13, rfl, hr, hk⟩
      by_cases hk1 : k < a.length
      · obtain ⟨x, hx⟩ : ∃ x, a[k]? = some x := ⟨_, List.getElem?_eq_getElem hk1⟩
        obtain ⟨y, hy⟩ : ∃ y, b[k]? = some y := ⟨_, List.getElem?_eq_getElem (by omega)⟩
        rw [drop_get hx, drop_get hy, eqBy] at hr
        cases c0 : (x.toList == y.toList) with
        | true =>
          have e : pS x y = true := by simp [pS, c0]
          rw [e, Bool.true_and] at hr
          clear e
          replace hr := Asd.mk hr
          (repeat refine stp ?_)
          exact ⟨_, by omega, k + 1, rd, rd, rd, rd, rfl, hr.out, by omega⟩
        | false =>
          have e : pS x y = false := by simp [pS, c0]
          rw [e, Bool.false_and] at hr
          clear e
          rw [← hr]
          clear hr
          (repeat refine stp ?_)
          exact FE
      · have hke : k = a.length := by omega
        subst hke
        rw [List.drop_length, eqBy] at hr
        rw [← hr]
        clear hr
        (repeat refine stp ?_)
        exact FE
        intros; simp_all
  · rw [decide_eq_false hl, Bool.false_and]
    (repeat refine stp ?_)
    exact FE
end Go.Proofs.YtfdeheodjkpkkaaGreatDoor.V
namespace Go.Proofs.YtfdeheodjkpkkaaGreatDoor.V
open Go Go.Proofs Go.Proofs.Ev Go.Proofs.YtfdeheodjkpkkaaGreatDoor Go.Proofs.YtfdeheodjkpkkaaGreatDoor.Sp Go.Proofs.YtfdeheodjkpkkaaGreatDoor.Ba
set_option maxHeartbeats 4000000
set_option maxRecDepth 100000
set_option linter.unusedSimpArgs false
set_option linter.unusedVariables false
set_option linter.unusedSectionVars false
def pN (x y : Sp.Nd) : Bool := x.f0 == y.f0 && (same pI x.f1 y.f1 && (same pI x.f2 y.f2 && same pD x.f3 y.f3))
theorem same1_den (x y : Sp.Nd) (hx : wfN x) (hy : wfN y) : Den Tryz.prog 122 [.agg (eN x), .agg (eN y)] [] (.bool (pN x y)) [] [] := by
  (refine den_walk mix Tryz.func122 rfl (by kernel_rfl) rfl [.tmp 4] rfl (by simp) ?_; simp only [bodyOf, Tryz.f122])
  obtain ⟨_, _, _, _, a1, a2, a3⟩ := hx
  obtain ⟨_, _, _, _, b1, b2, b3⟩ := hy
  by_cases h0 : x.f0 = y.f0
  · have e : pN x y = (same pI x.f1 y.f1 && (same pI x.f2 y.f2 && same pD x.f3 y.f3)) := by simp [pN, h0]
    rw [e]
    clear e
    (repeat refine stp ?_)
    (refine RC (equal_int x.f1 y.f1 a1 b1) ?_)
    cases s1 : same pI x.f1 y.f1 with
    | false =>
      (repeat refine stp ?_)
      exact FE
    | true =>
      (repeat refine stp ?_)
      (refine RC (equal_int x.f2 y.f2 a2 b2) ?_)
      cases s2 : same pI x.f2 y.f2 with
      | false =>
        (repeat refine stp ?_)
        exact FE
      | true =>
        (repeat refine stp ?_)
        (refine RC (equal_dec x.f3 y.f3 a3 b3) ?_)
        cases s3 : same pD x.f3 y.f3 with
        | false =>
          (repeat refine stp ?_)
          exact FE
        | true =>
          (repeat refine stp ?_)
          exact FE
  · have e : pN x y = false := by simp [pN, h0]
    rw [e]
    clear e
    (repeat refine stp ?_)
    exact FE
theorem equalFunc_node (a b : List Sp.Nd) (ha : a.length ≤ 1099511627776) (hb : b.length ≤ 1099511627776) (g : Nat) (hok : okF Tryz.prog g = true) (p : Sp.Nd → Sp.Nd → Bool) (hp : ∀ x ∈ a, ∀ y ∈ b, Den Tryz.prog g [.agg (eN x), .agg (eN y)] [] (.bool (p x y)) [] []) : Den Tryz.prog 121 [.ro (a.map eN), .ro (b.map eN), .fn g []] [] (.bool (same p a b)) [] [] := by
  (refine den_walk mix Tryz.func121 rfl (by kernel_rfl) rfl [.tmp 6] rfl (by simp) ?_; simp only [bodyOf, Tryz.f121])
  unfold same
  by_cases hl : a.length = b.length
  · rw [decide_eq_true hl, Bool.true_and]
    (repeat refine stp ?_)
    refine Run_loop (fun m σ => ∃ k : Nat, σ.t 15 = .ro (a.map eN) ∧ σ.t 1 = .ro (b.map eN) ∧ σ.t 2 = .fn g [] ∧ σ.t 16 = .int .i64 a.length ∧ σ.t 17 = .int .i64 k ∧ m = a.length - k ∧ eqBy p (a.drop k) (b.drop k) = eqBy p a b ∧ k ≤ a.length) a.length ?_ ?_
    · exact ⟨0, rd, rd, rd, rd, rd, rfl, rfl, by omega⟩
    · rintro m σ ⟨k, h0, h1, h2, h12, h13, rfl, hr, hk⟩
      by_cases hk1 : k < a.length
      · obtain ⟨x, hx⟩ : ∃ x, a[k]? = some x := ⟨_, List.getElem?_eq_getElem hk1⟩
        obtain ⟨y, hy⟩ : ∃ y, b[k]? = some y := ⟨_, List.getElem?_eq_getElem (by omega)⟩
        rw [drop_get hx, drop_get hy, eqBy] at hr
        replace hr := Asd.mk hr
        (repeat refine stp ?_)
        (refine RC (hp x (List.mem_of_getElem? hx) y (List.mem_of_getElem? hy)) ?_)
        cases c0 : p x y with
        | true =>
          (repeat refine stp ?_)
          exact ⟨_, by omega, k + 1, rd, rd, rd, rd, rd, rfl, by rw [← hr.out, c0, Bool.true_and], by omega⟩
        | false =>
          have hr := hr.out
          rw [c0, Bool.false_and] at hr
          rw [← hr]
          clear hr
          (repeat refine stp ?_)
          exact FE
      · have hke : k = a.length := by omega
        subst hke
        rw [List.drop_length, eqBy] at hr
        rw [← hr]
        clear hr
        (repeat refine stp ?_)
        exact FE
        intros; simp_all
  · rw [decide_eq_false hl, Bool.false_and]
    (repeat refine stp ?_)
    exact FE
theorem same_den (a b : List Sp.Nd) (ha : a.length ≤ 1099511627776) (hb : b.length ≤ 1099511627776) (hwa : ∀ n ∈ a, wfN n) (hwb : ∀ n ∈ b, wfN n) : Den Tryz.prog 70 [.ro (a.map eN), .ro (b.map eN)] [] (.bool (same pN a b)) [] [] := by
  (refine den_walk mix Tryz.func70 rfl (by kernel_rfl) rfl [.tmp 4] rfl (by simp) ?_; simp only [bodyOf, Tryz.f70])
  (repeat refine stp ?_)
  (refine RC (equalFunc_node a b ha hb _ (by kernel_rfl) pN (fun x hx y hy => same1_den x y (hwa x hx) (hwb y hy))) ?_)
  (repeat refine stp ?_)
  exact FE
end Go.Proofs.YtfdeheodjkpkkaaGreatDoor.V
