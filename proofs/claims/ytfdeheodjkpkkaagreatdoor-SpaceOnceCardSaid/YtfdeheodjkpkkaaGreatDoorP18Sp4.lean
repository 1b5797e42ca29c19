/- Tight arrays: the tight form of a tight array is it, and it is no greater than what it is of. -/
import Derived.Test.YtfdeheodjkpkkaaGreatDoorP18Sp3
import Derived.Test.YtfdeheodjkpkkaaGreatDoorP18Fo4
set_option linter.unusedVariables false
set_option linter.unusedSimpArgs false
set_option linter.unusedSectionVars false
namespace Go.Proofs.YtfdeheodjkpkkaaGreatDoor.Sp
set_option linter.unusedVariables false
open Go.RowKit Go.Proofs.YtfdeheodjkpkkaaGreatDoorW.PrintWords Go.Proofs.YtfdeheodjkpkkaaGreatDoor.All Go.Proofs.YtfdeheodjkpkkaaGreatDoor.Dm Go.Proofs.YtfdeheodjkpkkaaGreatDoor.Ba Go.Lib
open Fo
theorem makeL_of (n : Nd) (k : Fo) (h : (node n k nil).ok) (ht : (node n k nil).tot ≤ 1048576) (hd : (node n k nil).dep ≤ 16) : makeL (n :: k.flat) = (form n k, true) := by
  have hr := tree_right n k h ht hd
  unfold makeL
  rw [dif_pos hr]
  obtain ⟨c1, c2, c3, c4, _⟩ := (right_tree hr).choose_spec.choose_spec
  obtain ⟨e1, e2⟩ := tree_inj h c2 c1
  have a1 : (treeOf (n :: k.flat) hr).1 = n := e1.symm
  have a2 : (treeOf (n :: k.flat) hr).2 = k := e2.symm
  rw [a1, a2]
theorem makeL_right {a : List Nd} (h : (makeL a).2 = true) : rightL a = true := by
  unfold makeL at h
  split at h
  · assumption
  · simp at h
/-- What an array that is right is: its tree, its tight form, that form's tree. -/
theorem make_tree {a : List Nd} (hw : ∀ x ∈ a, wfN x) (h : rightL a = true) : ∃ n k m q, a = n :: k.flat ∧ (node n k nil).ok ∧ (node n k nil).tot ≤ 1048576 ∧ (node n k nil).dep ≤ 16 ∧ formF (node n k nil) = node m q nil ∧ (node m q nil).ok ∧ (node m q nil).tot ≤ (node n k nil).tot ∧ (node m q nil).dep ≤ (node n k nil).dep ∧ makeL a = (m :: q.flat, true) ∧ formF (node m q nil) = node m q nil := by
  obtain ⟨n, k, rfl, h1, h2, h3, _⟩ := right_tree h
  have hf := form_ok (node n k nil) h1
  refine ⟨n, k, (form1 n (formF k)).1, (form1 n (formF k)).2, rfl, h1, h2, h3, rfl, hf.1, hf.2.2.1, hf.2.2.2.1, makeL_of n k h1 h2 h3, ?_⟩
  exact formF_own (node n k nil) h1 (by simpa [flat] using hw)
theorem walk_of (n : Nd) (k : Fo) (h : (node n k nil).ok) (ht : (node n k nil).tot ≤ 1048576) (hd : (node n k nil).dep ≤ 16) : walk (n :: k.flat) = (((n :: k.flat).length : Int), (node n k nil).tot, ((node n k nil).dep : Int)) := by
  obtain ⟨m, j, e, c2, c3, c4, c5⟩ := right_tree (tree_right n k h ht hd)
  obtain ⟨rfl, rfl⟩ := tree_inj h c2 e
  exact c5
theorem flat_shape : ∀ f : Fo, f.ok → ∀ x ∈ (formF f).flat, ∃ y ∈ f.flat, x.f1 = y.f1
  | nil, _, x, hx => by simp [formF, flat] at hx
  | node n k s, h, x, hx => by
    obtain ⟨h0, h5, hn5, hk, hs⟩ := h
    have hfk := form_ok k hk
    have hi := form1_items n (formF k) h0 hfk.2.2.2.2 (fun e => by rw [hfk.2.1]; exact h5 e) (fun e => by rw [hn5 e]; rfl)
    simp only [formF, flat, List.mem_cons, List.mem_append] at hx ⊢
    rcases hx with rfl | hx | hx
    · exact ⟨n, .inl rfl, hi.2.2.2.2⟩
    · rcases hi.2.2.2.1 with q | q
      · rw [q] at hx; simp [flat] at hx
      · rw [q] at hx
        obtain ⟨y, hy, e⟩ := flat_shape k hk x hx
        exact ⟨y, .inr (.inl hy), e⟩
    · obtain ⟨y, hy, e⟩ := flat_shape s hs x hx
      exact ⟨y, .inr (.inr hy), e⟩
theorem rankGo_cons (n : Nd) (a : List Nd) (m : Int) : rankGo m (n :: a) = rankGo (max m (n.f1.length : Int)) a := rfl
theorem rankGo_le : ∀ (a : List Nd) (m b : Int), m ≤ b → (∀ x ∈ a, (x.f1.length : Int) ≤ b) → rankGo m a ≤ b
  | [], m, b, h, _ => h
  | n :: a, m, b, h, ha => by
    rw [rankGo_cons]
    refine rankGo_le a _ b ?_ (fun x hx => ha x (by simp [hx]))
    have := ha n (by simp)
    omega
theorem rankGo_ge : ∀ (a : List Nd) (m : Int), m ≤ rankGo m a ∧ ∀ x ∈ a, (x.f1.length : Int) ≤ rankGo m a
  | [], m => ⟨Int.le_refl _, fun x h => by cases h⟩
  | n :: a, m => by
    rw [rankGo_cons]
    have h := rankGo_ge a (max m (n.f1.length : Int))
    refine ⟨by omega, fun x hx => ?_⟩
    rcases List.mem_cons.1 hx with rfl | hx
    · omega
    · exact h.2 x hx
/-- The tight form has no more items, and is no deeper, and of no greater rank. -/
theorem make_less {a : List Nd} (hw : ∀ x ∈ a, wfN x) (h : (makeL a).2 = true) : itemsL (makeL a).1 ≤ itemsL a ∧ depthL (makeL a).1 ≤ depthL a ∧ rankL (makeL a).1 ≤ rankL a := by
  obtain ⟨n, k, m, q, rfl, h1, h2, h3, h4, h5, h6, h7, h8, h9⟩ := make_tree hw (makeL_right h)
  rw [h8]
  have w1 := walk_of n k h1 h2 h3
  have w2 := walk_of m q h5 (by omega) (by omega)
  have r1 := tree_right n k h1 h2 h3
  have r2 := tree_right m q h5 (by omega) (by omega)
  unfold itemsL depthL rankL takeL
  rw [w1, w2, if_pos rfl, if_pos rfl, if_pos rfl, if_pos rfl, if_pos r1, if_pos r2]
  refine ⟨h6, by dsimp only; omega, ?_⟩
  refine rankGo_le _ _ _ (rankGo_ge _ _).1 (fun x hx => ?_)
  obtain ⟨y, hy, e⟩ := flat_shape (node n k nil) h1 x (by rw [h4]; simpa [flat] using hx)
  rw [e]
  exact (rankGo_ge _ _).2 y (by simpa [flat] using hy)
/-- A tight array is its own tight form, and the other way about. -/
theorem tightR_iff {a : List Nd} : tightR a = true ↔ makeL a = (a, true) := by
  unfold tightR
  simp only [Bool.and_eq_true, decide_eq_true_eq]
  constructor
  · rintro ⟨h1, h2⟩
    exact Prod.ext h2.symm h1
  · intro h
    rw [h]
    exact ⟨rfl, rfl⟩
end Go.Proofs.YtfdeheodjkpkkaaGreatDoor.Sp
