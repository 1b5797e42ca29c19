/- Tight arrays: the tight form of a tight array is it, and it is no greater than what it is of. -/
import Derived.Test.YtpkjiplgpgbheaaGreatDoorP14EpSp3
import Derived.Test.YtpkjiplgpgbheaaGreatDoorP14EpFo4
set_option linter.unusedVariables false
set_option linter.unusedSimpArgs false
set_option linter.unusedSectionVars false
namespace Go.Proofs.YtpkjiplgpgbheaaGreatDoor.Sp
set_option linter.unusedVariables false
open Go.RowKit Go.Proofs.YtpkjiplgpgbheaaGreatDoor.Ba  Go.Proofs.YtpkjiplgpgbheaaGreatDoor.Dm Go.Proofs.YtpkjiplgpgbheaaGreatDoor.Ba Go.Lib
open Fo
theorem makeL_of (n : Nd) (k : Fo) (h : (node n k nil).ok) (ht : (node n k nil).tot ≤ 1048576) (hd : (node n k nil).dep ≤ 16) : makeL (n :: k.flat) = (form n k, true) := by
  have hr := tree_right n k h ht hd
  unfold makeL
  rw [dif_pos hr]
  obtain ⟨c1, c2, c3, c4, _⟩ := (right_tree hr).choose_spec.choose_spec
  obtain ⟨e1, e2⟩ := tree_inj h c2 c1
  have a1 : (treeOf (n :: k.flat) hr).1 = n := e1.symm
  have a2 : (treeOf (n :: k.flat) hr).2 = k := e2.symm
  rw [a1, a2]
theorem makeL_right {a : List Nd} (h : (makeL a).2 = true) : rightL a = true := by
  unfold makeL at h
  split at h
  · assumption
  · simp at h
/-- What an array that is right is: its tree, its tight form, that form's tree. -/
theorem make_tree {a : List Nd} (hw : ∀ x ∈ a, wfN x) (h : rightL a = true) : ∃ n k m q, a = n :: k.flat ∧ (node n k nil).ok ∧ (node n k nil).tot ≤ 1048576 ∧ (node n k nil).dep ≤ 16 ∧ formF (node n k nil) = node m q nil ∧ (node m q nil).ok ∧ (node m q nil).tot ≤ (node n k nil).tot ∧ (node m q nil).dep ≤ (node n k nil).dep ∧ makeL a = (m :: q.flat, true) ∧ formF (node m q nil) = node m q nil := by
  obtain ⟨n, k, rfl, h1, h2, h3, _⟩ := right_tree h
  have hf := form_ok (node n k nil) h1
  refine ⟨n, k, (form1 n (formF k)).1, (form1 n (formF k)).2, rfl, h1, h2, h3, rfl, hf.1, hf.2.2.1, hf.2.2.2.1, makeL_of n k h1 h2 h3, ?_⟩
  exact formF_own (node n k nil) h1 (by simpa [flat] using hw)
/-- A tight array is its own tight form, and the other way about. -/
theorem tightR_iff {a : List Nd} : tightR a = true ↔ makeL a = (a, true) := by
  unfold tightR
  simp only [Bool.and_eq_true, decide_eq_true_eq]
  constructor
  · rintro ⟨h1, h2⟩
    exact Prod.ext h2.symm h1
  · intro h
    rw [h]
    exact ⟨rfl, rfl⟩
end Go.Proofs.YtpkjiplgpgbheaaGreatDoor.Sp
