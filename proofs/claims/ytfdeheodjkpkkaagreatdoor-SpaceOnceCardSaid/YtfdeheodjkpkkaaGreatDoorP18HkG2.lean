/- slices.Grow of no nodes. -/
import Derived.Test.YtfdeheodjkpkkaaGreatDoorP18HkA
import Derived.Test.YtfdeheodjkpkkaaGreatDoorP18Sp2
set_option linter.unusedVariables false
set_option linter.unusedSimpArgs false
set_option linter.unusedSectionVars false
namespace Go.Proofs.YtfdeheodjkpkkaaGreatDoor.All
open Go.RowKit Go.Proofs.YtfdeheodjkpkkaaGreatDoorW.PrintWords Go.Proofs.YtfdeheodjkpkkaaGreatDoorW.PrintLast Go.Proofs.YtfdeheodjkpkkaaGreatDoorW.PrintMore Go.Proofs.YtfdeheodjkpkkaaGreatDoor.G Go.Proofs.YtfdeheodjkpkkaaGreatDoor.Sp Go.Proofs.YtfdeheodjkpkkaaGreatDoor.Dm Go.Proofs.YtfdeheodjkpkkaaGreatDoor.Ba
set_option linter.unusedVariables false
set_option linter.unusedSimpArgs false
set_option maxHeartbeats 3000000
set_option maxRecDepth 1000000
theorem grow_node (n : Nat) (w : World) (hn : n * 80 ≤ 140737488355328) :
    Calls Tryz.prog 212 #[.slice none 0 0, .int .i64 n] w fun e w' => (∃ v, e = .returned v ∧ k37.R 37 w' w.heap.size (fun _ => True) v []) ∧ Below w.heap.size w w' := by
  obtain ⟨i0, hi, hz0, hz1, hz2⟩ := info_parts inf_Node
  have hnb : (n : Int) ≤ 140737488355328 := by omega
  have HI := Aside0.mk hi
  have HN := Aside0.mk hn
  clear hi hz0 hz1 hz2
  by_cases h0 : n = 0
  · subst h0
    go_enter Tryz.func212, Tryz.ntmps212
    go_wp2
    go_ret
    exact ⟨⟨_, rfl, Kd.R_nil _ _ _ _ _⟩, Below.refl _ _⟩
  · have h1 : decide ((n : Int) > 0) = true := decide_eq_true (by omega)
    have h2 : decide (0 < (n : Int)) = true := decide_eq_true (by omega)
    have h3 : decide (0 < n) = true := decide_eq_true (by omega)
    have h4 : decide ((n : Int) < 0) = false := decide_eq_false (by omega)
    clear h0
    go_enter Tryz.func212, Tryz.ntmps212
    go_wp2_with ((with_reducible refine gate_builtin (b := .append) (xs := #[.tmp 20, .tmp 21]) rfl ?_); at_builtin; refine Kd.R_append_zeros k37 (w0 := w) w.heap.size rfl (.tmp 20) (.tmp 21) 26 3 37 (.agg #[(.int .i64 0), (.slice none 0 0), (.slice none 0 0), (.slice none 0 0)]) 80 rfl Tryz.underlying26 Tryz.underlying3 inf_Node rfl (by decide) (by omega) (.slice none 0 0) [] zN (n : Int) (fun _ => True) rfl rfl ?aZ (fun _ _ => trivial) (Kd.R_nil _ _ _ _ _) (by omega) (Below.refl _ _) (Nat.le_refl _) ?aL ?_; (case aZ => exact k37_mkM _ _ _ zN (Kd.R_nil _ _ _ _ _) (Kd.R_nil _ _ _ _ _) (Kd.R_nil _ _ _ _ _)); (case aL => simpa using HN.out); intro v2 w2 ho2 hb2 _ _; obtain ⟨S2, d2, hv2⟩ := Kd.R_slice ho2; have hle := (Kd.R_reads' (by rw [hv2] at ho2; exact ho2)).2.1; subst hv2; have HO2 := Aside0.mk ho2; clear ho2)
    go_ret
    exact ⟨⟨_, rfl, by have := Kd.R_take HO2.out (m := 0) (by simp); simpa using this⟩, hb2⟩
theorem grow_own (n : Nat) (w : World) (hn : n * 80 ≤ 140737488355328) :
    Calls Tryz.prog 212 #[.slice none 0 0, .int .i64 n] w fun e w' => (∃ v, e = .returned v ∧ w'.ownsRow w.heap.size 37 4 v 0 []) ∧ Below w.heap.size w w' := by
  refine Calls.mono (grow_node n w hn) ?_
  rintro e w' ⟨⟨v, rfl, h⟩, hB⟩
  refine ⟨⟨v, rfl, ?_⟩, hB⟩
  obtain ⟨h0, inner, ho, hr⟩ := h
  have h1 := ho.1
  have : inner = [] := List.eq_nil_of_length_eq_zero (by simpa using h1)
  subst this
  exact ho
end Go.Proofs.YtfdeheodjkpkkaaGreatDoor.All
