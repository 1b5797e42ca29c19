-- Written for this claim by wip/tools/gprint.py out of the translation (it drives the kit's print). Lean checks it.
import Derived.Test.YtbbonbhammfpjaaDoorAll0
import Derived.Test.YtbbonbhammfpjaaDoorAll1
import Derived.Test.YtbbonbhammfpjaaDoorAll3
import Derived.Test.YtbbonbhammfpjaaDoorAll5
import Derived.Test.YtbbonbhammfpjaaDoorAll6
namespace Go.Proofs.YtbbonbhammfpjaaDoor.All
open Go.RowKit Go.Proofs.YtbbonbhammfpjaaDoorW.PrintWords Go.Proofs.YtbbonbhammfpjaaDoorW.PrintLast Go.Proofs.YtbbonbhammfpjaaDoorW.PrintMore Go.Proofs.YtbbonbhammfpjaaDoor.G
attribute [local go_sem] max2_int min2_int max_two min_two max_three min_three max_four min_four str_leq str_gtr str_geq   -- for this text's walks alone
set_option linter.unusedVariables false
set_option linter.unusedSimpArgs false

attribute [local go_sem high] eqA28
/-! ### decklelaw12_NumberParts_t: function 5 -/
mutual
def decklelaw12_NumberParts_t.l0 : Nat → ByteArray → ByteArray → Bool → List (S28) → ByteArray → Bool → List (S28) → ByteArray → Bool → Int → Option (Bool)
  | 0, _, _, _, _, _, _, _, _, _, _ => none
  | k + 1, x0, x1, x5, x6, x7, x8, x9, x10, x11, x12 => if x12 < (x6.length : Int) then (if 0 ≤ x12 then ((decimal_Right.f k ((rd_T28 x6 x12).f0) ((rd_T28 x6 x12).f1)).bind fun t331 => (if t331 = true then (decklelaw12_NumberParts_t.l0 k x0 x1 x5 x6 x7 x8 x9 x10 x11 (wrap64 (x12 + 1))) else (some false))) else (none)) else (if x8 = true then (if x7.toList = ([] : List UInt8) then (if x11 = true then (if (x6.length : Int) = 0 then (if x5 = true then (if (x6.length : Int) > 0 then (if (x7.size : Int) < (x0.size : Int) then (if 0 ≤ (wrap64 ((x0.size : Int) - (x7.size : Int))) then (if (wrap64 ((x0.size : Int) - (x7.size : Int))) ≤ (x0.size : Int) then (some ((x0.extract ((wrap64 ((x0.size : Int) - (x7.size : Int))) : Int).toNat x0.size).toList == x7.toList)) else (none)) else (none)) else (some false)) else (some false)) else (some false)) else (if (x7.size : Int) > (x0.size : Int) then (if x5 = true then (if (x6.length : Int) > 0 then (if (x7.size : Int) < (x0.size : Int) then (if 0 ≤ (wrap64 ((x0.size : Int) - (x7.size : Int))) then (if (wrap64 ((x0.size : Int) - (x7.size : Int))) ≤ (x0.size : Int) then (some ((x0.extract ((wrap64 ((x0.size : Int) - (x7.size : Int))) : Int).toNat x0.size).toList == x7.toList)) else (none)) else (none)) else (some false)) else (some false)) else (some false)) else (if x0.size + 1 ≤ 9223372036854775807 then (if (x0 ++ (⟨#[32]⟩ : ByteArray)).size + x1.size ≤ 9223372036854775807 then ((number_Read.f k ((x0 ++ (⟨#[32]⟩ : ByteArray)) ++ x1)).bind fun bt332 => (if bt332.2.2 = true then (if bt332.2.1.toList = x10.toList then (if (bt332.1.length : Int) = (wrap64 ((x6.length : Int) + (x9.length : Int))) then (decklelaw12_NumberParts_t.l1 k x5 x6 x9 bt332.1 0) else (some false)) else (some false)) else (some false))) else (none)) else (none)))) else (if x5 = true then (if (x6.length : Int) > 0 then (if (x7.size : Int) < (x0.size : Int) then (if 0 ≤ (wrap64 ((x0.size : Int) - (x7.size : Int))) then (if (wrap64 ((x0.size : Int) - (x7.size : Int))) ≤ (x0.size : Int) then (some ((x0.extract ((wrap64 ((x0.size : Int) - (x7.size : Int))) : Int).toNat x0.size).toList == x7.toList)) else (none)) else (none)) else (some false)) else (some false)) else (some false))) else (if x5 = true then (if (x6.length : Int) > 0 then (if (x7.size : Int) < (x0.size : Int) then (if 0 ≤ (wrap64 ((x0.size : Int) - (x7.size : Int))) then (if (wrap64 ((x0.size : Int) - (x7.size : Int))) ≤ (x0.size : Int) then (some ((x0.extract ((wrap64 ((x0.size : Int) - (x7.size : Int))) : Int).toNat x0.size).toList == x7.toList)) else (none)) else (none)) else (some false)) else (some false)) else (some false))) else (if x5 = true then (if (x6.length : Int) = 0 then (some (x7.toList == ([] : List UInt8))) else (some false)) else (some false)))
def decklelaw12_NumberParts_t.l1 : Nat → Bool → List (S28) → List (S28) → List (S28) → Int → Option (Bool)
  | 0, _, _, _, _, _ => none
  | k + 1, x5, x6, x9, x13, x16 => if x16 < (x6.length : Int) then (if 0 ≤ x16 then (if x16 < (x13.length : Int) then (if (!(((rd_T28 x13 x16).f0) == ((rd_T28 x6 x16).f0)) || (!(((rd_T28 x13 x16).f1) == ((rd_T28 x6 x16).f1)))) = true then (some false) else (decklelaw12_NumberParts_t.l1 k x5 x6 x9 x13 (wrap64 (x16 + 1)))) else (none)) else (none)) else (decklelaw12_NumberParts_t.l2 k x5 x6 x9 x13 0)
def decklelaw12_NumberParts_t.l2 : Nat → Bool → List (S28) → List (S28) → List (S28) → Int → Option (Bool)
  | 0, _, _, _, _, _ => none
  | k + 1, x5, x6, x9, x13, x17 => if x17 < (x9.length : Int) then (if 0 ≤ (wrap64 ((x6.length : Int) + x17)) then (if (wrap64 ((x6.length : Int) + x17)) < (x13.length : Int) then (if 0 ≤ x17 then (if (!(((rd_T28 x13 (wrap64 ((x6.length : Int) + x17))).f0) == ((rd_T28 x9 x17).f0)) || (!(((rd_T28 x13 (wrap64 ((x6.length : Int) + x17))).f1) == ((rd_T28 x9 x17).f1)))) = true then (some false) else (decklelaw12_NumberParts_t.l2 k x5 x6 x9 x13 (wrap64 (x17 + 1)))) else (none)) else (none)) else (none)) else (some x5)
end
def decklelaw12_NumberParts_t.f (k : Nat) (a0 : ByteArray) (a1 : ByteArray) : Option (Bool) := (decklelaw12_small.f k).bind fun t319 => (if (a0.size : Int) > 300 then (some t319) else (if (a1.size : Int) > 300 then (some t319) else ((number_Read.f k a0).bind fun bt320 => ((number_Read.f k a1).bind fun bt325 => (decklelaw12_NumberParts_t.l0 k a0 a1 t319 bt320.1 bt320.2.1 bt320.2.2 bt325.1 bt325.2.1 bt325.2.2 0)))))
theorem decklelaw12_NumberParts_t.mono_l : ∀ k, (∀ y0 y1 y2 y3 y4 y5 y6 y7 y8 y9, LeO (decklelaw12_NumberParts_t.l0 k y0 y1 y2 y3 y4 y5 y6 y7 y8 y9) (decklelaw12_NumberParts_t.l0 (k + 1) y0 y1 y2 y3 y4 y5 y6 y7 y8 y9)) ∧ (∀ y0 y1 y2 y3 y4, LeO (decklelaw12_NumberParts_t.l1 k y0 y1 y2 y3 y4) (decklelaw12_NumberParts_t.l1 (k + 1) y0 y1 y2 y3 y4)) ∧ (∀ y0 y1 y2 y3 y4, LeO (decklelaw12_NumberParts_t.l2 k y0 y1 y2 y3 y4) (decklelaw12_NumberParts_t.l2 (k + 1) y0 y1 y2 y3 y4))
  | 0 => ⟨fun _ _ _ _ _ _ _ _ _ _ r h => by simp [decklelaw12_NumberParts_t.l0] at h, fun _ _ _ _ _ r h => by simp [decklelaw12_NumberParts_t.l1] at h, fun _ _ _ _ _ r h => by simp [decklelaw12_NumberParts_t.l2] at h⟩
  | k + 1 => by
    obtain ⟨ih0, ih1, ih2⟩ := decklelaw12_NumberParts_t.mono_l k
    refine ⟨?_, ?_, ?_⟩
    · intro y0 y1 y2 y3 y4 y5 y6 y7 y8 y9
      unfold decklelaw12_NumberParts_t.l0
      repeat' first
      | (with_reducible exact ih0 _ _ _ _ _ _ _ _ _ _)
      | (with_reducible exact ih1 _ _ _ _ _)
      | (with_reducible exact ih2 _ _ _ _ _)
      | (with_reducible exact decimal_Right.mono _ _ _)
      | (with_reducible exact decklelaw12_small.mono _)
      | (with_reducible exact number_Read.mono _ _)
      | (with_reducible exact LeO.refl _)
      | (with_reducible exact LeO.none _)
      | (with_reducible refine LeO.ite ?_ ?_)
      | (with_reducible refine LeO.bind ?_ (fun _ => ?_))
      | exact ih0 _ _ _ _ _ _ _ _ _ _
      | exact ih1 _ _ _ _ _
      | exact ih2 _ _ _ _ _
      | exact decimal_Right.mono _ _ _
      | exact decklelaw12_small.mono _
      | exact number_Read.mono _ _
      | exact LeO.none _
      | refine LeO.ite ?_ ?_
      | refine LeO.bind ?_ (fun _ => ?_)
    · intro y0 y1 y2 y3 y4
      unfold decklelaw12_NumberParts_t.l1
      repeat' first
      | (with_reducible exact ih0 _ _ _ _ _ _ _ _ _ _)
      | (with_reducible exact ih1 _ _ _ _ _)
      | (with_reducible exact ih2 _ _ _ _ _)
      | (with_reducible exact decimal_Right.mono _ _ _)
      | (with_reducible exact decklelaw12_small.mono _)
      | (with_reducible exact number_Read.mono _ _)
      | (with_reducible exact LeO.refl _)
      | (with_reducible exact LeO.none _)
      | (with_reducible refine LeO.ite ?_ ?_)
      | (with_reducible refine LeO.bind ?_ (fun _ => ?_))
      | exact ih0 _ _ _ _ _ _ _ _ _ _
      | exact ih1 _ _ _ _ _
      | exact ih2 _ _ _ _ _
      | exact decimal_Right.mono _ _ _
      | exact decklelaw12_small.mono _
      | exact number_Read.mono _ _
      | exact LeO.none _
      | refine LeO.ite ?_ ?_
      | refine LeO.bind ?_ (fun _ => ?_)
    · intro y0 y1 y2 y3 y4
      unfold decklelaw12_NumberParts_t.l2
      repeat' first
      | (with_reducible exact ih0 _ _ _ _ _ _ _ _ _ _)
      | (with_reducible exact ih1 _ _ _ _ _)
      | (with_reducible exact ih2 _ _ _ _ _)
      | (with_reducible exact decimal_Right.mono _ _ _)
      | (with_reducible exact decklelaw12_small.mono _)
      | (with_reducible exact number_Read.mono _ _)
      | (with_reducible exact LeO.refl _)
      | (with_reducible exact LeO.none _)
      | (with_reducible refine LeO.ite ?_ ?_)
      | (with_reducible refine LeO.bind ?_ (fun _ => ?_))
      | exact ih0 _ _ _ _ _ _ _ _ _ _
      | exact ih1 _ _ _ _ _
      | exact ih2 _ _ _ _ _
      | exact decimal_Right.mono _ _ _
      | exact decklelaw12_small.mono _
      | exact number_Read.mono _ _
      | exact LeO.none _
      | refine LeO.ite ?_ ?_
      | refine LeO.bind ?_ (fun _ => ?_)
theorem decklelaw12_NumberParts_t.mono : ∀ a0 a1 k, LeO (decklelaw12_NumberParts_t.f k a0 a1) (decklelaw12_NumberParts_t.f (k + 1) a0 a1) := by
  intro a0 a1 k
  obtain ⟨ih0, ih1, ih2⟩ := decklelaw12_NumberParts_t.mono_l k
  unfold decklelaw12_NumberParts_t.f
  repeat' first
      | (with_reducible exact ih0 _ _ _ _ _ _ _ _ _ _)
      | (with_reducible exact ih1 _ _ _ _ _)
      | (with_reducible exact ih2 _ _ _ _ _)
      | (with_reducible exact decimal_Right.mono _ _ _)
      | (with_reducible exact decklelaw12_small.mono _)
      | (with_reducible exact number_Read.mono _ _)
      | (with_reducible exact LeO.refl _)
      | (with_reducible exact LeO.none _)
      | (with_reducible refine LeO.ite ?_ ?_)
      | (with_reducible refine LeO.bind ?_ (fun _ => ?_))
      | exact ih0 _ _ _ _ _ _ _ _ _ _
      | exact ih1 _ _ _ _ _
      | exact ih2 _ _ _ _ _
      | exact decimal_Right.mono _ _ _
      | exact decklelaw12_small.mono _
      | exact number_Read.mono _ _
      | exact LeO.none _
      | refine LeO.ite ?_ ?_
      | refine LeO.bind ?_ (fun _ => ?_)
set_option maxHeartbeats 8000000 in
set_option maxRecDepth 100000 in
theorem decklelaw12_NumberParts_t.calls (k : Nat) (a0 : ByteArray) (a1 : ByteArray) (r : Bool) (w : World) (hT : Tabs w) (hr : r = true) (h : decklelaw12_NumberParts_t.f k a0 a1 = some r) :
    Calls Tryd.prog 5 #[.string a0, .string a1] w fun e w' => e = .returned (.bool r) ∧ Below w.heap.size w w' := by
  have hu28 := Tryd.underlying28
  have HB := Aside0.mk (Below.refl w.heap.size w)
  have H : ((decklelaw12_small.f k).bind fun t319 => (if (a0.size : Int) > 300 then (some t319) else (if (a1.size : Int) > 300 then (some t319) else ((number_Read.f k a0).bind fun bt320 => ((number_Read.f k a1).bind fun bt325 => (decklelaw12_NumberParts_t.l0 k a0 a1 t319 bt320.1 bt320.2.1 bt320.2.2 bt325.1 bt325.2.1 bt325.2.2 0)))))) = some r := h
  clear h
  replace H := Option.bind_eq_some_iff.mp H
  obtain ⟨t319, A30, H⟩ := H
  have A3 := Aside0.mk A30; clear A30
  by_cases c4 : (a0.size : Int) > 300
  · rw [if_pos c4] at H
    have c4b0 : decide (300 < (a0.size : Int)) = true := decide_eq_true c4
    have c4b1 : decide (300 < a0.size) = true := decide_eq_true (by omega)
    clear c4
    clear hr
    obtain rfl := Option.some.inj H
    go_enter Tryd.func5, Tryd.ntmps5
    go_wp2_with (first | (go_at_call 8; (with_reducible refine (decklelaw12_small.calls k  t319 _ ?side1 A3.out).mono ?_); (case side1 => first | exact hT | ((repeat (with_reducible first | exact hT | apply Tabs.drewN | apply Tabs.drew)); done) | exact Tabs.below hT (by repeat (first | (with_reducible first | exact HB.out | apply below_alloc | apply pw_below_drewN | apply below_drew1) | exact HB.out))); rintro e w5 ⟨rfl, hb⟩; have n0_ := Aside0.mk (below_step (by repeat (first | (with_reducible first | exact HB.out | apply below_alloc | apply pw_below_drewN | apply below_drew1) | exact HB.out)) hb); clear HB; have HB := n0_; clear n0_; (try clear hb); (try clear hb2); (try clear hk); (try clear hi)))
    repeat (go_quiet (first | (go_at_call 8; (with_reducible refine (decklelaw12_small.calls k  t319 _ ?side1 A3.out).mono ?_); (case side1 => first | exact hT | ((repeat (with_reducible first | exact hT | apply Tabs.drewN | apply Tabs.drew)); done) | exact Tabs.below hT (by repeat (first | (with_reducible first | exact HB.out | apply below_alloc | apply pw_below_drewN | apply below_drew1) | exact HB.out))); rintro e w5 ⟨rfl, hb⟩; have n0_ := Aside0.mk (below_step (by repeat (first | (with_reducible first | exact HB.out | apply below_alloc | apply pw_below_drewN | apply below_drew1) | exact HB.out)) hb); clear HB; have HB := n0_; clear n0_; (try clear hb); (try clear hb2); (try clear hk); (try clear hi))); try go_wp2_with (first | (go_at_call 8; (with_reducible refine (decklelaw12_small.calls k  t319 _ ?side1 A3.out).mono ?_); (case side1 => first | exact hT | ((repeat (with_reducible first | exact hT | apply Tabs.drewN | apply Tabs.drew)); done) | exact Tabs.below hT (by repeat (first | (with_reducible first | exact HB.out | apply below_alloc | apply pw_below_drewN | apply below_drew1) | exact HB.out))); rintro e w5 ⟨rfl, hb⟩; have n0_ := Aside0.mk (below_step (by repeat (first | (with_reducible first | exact HB.out | apply below_alloc | apply pw_below_drewN | apply below_drew1) | exact HB.out)) hb); clear HB; have HB := n0_; clear n0_; (try clear hb); (try clear hb2); (try clear hk); (try clear hi))))
    go_ret
    exact ⟨by first | rfl | (simp [errW_none, errW_some] <;> rfl) | (simp [*, errW_none, errW_some] <;> rfl) | (simp [errW_none, errW_some, bne_nil_, beq_nil_]; done) | (simp [*, errW_none, errW_some, bne_nil_, beq_nil_]; done), by repeat (first | (with_reducible first | exact HB.out | apply below_alloc | apply pw_below_drewN | apply below_drew1) | exact HB.out)⟩
  · rw [if_neg c4] at H
    have c4b0 : decide (300 < (a0.size : Int)) = false := decide_eq_false c4
    have c4b1 : decide (300 < a0.size) = false := decide_eq_false (by omega)
    clear c4
    by_cases c6 : (a1.size : Int) > 300
    · rw [if_pos c6] at H
      have c6b0 : decide (300 < (a1.size : Int)) = true := decide_eq_true c6
      have c6b1 : decide (300 < a1.size) = true := decide_eq_true (by omega)
      clear c6
      clear hr
      obtain rfl := Option.some.inj H
      go_enter Tryd.func5, Tryd.ntmps5
      go_wp2_with (first | (go_at_call 8; (with_reducible refine (decklelaw12_small.calls k  t319 _ ?side1 A3.out).mono ?_); (case side1 => first | exact hT | ((repeat (with_reducible first | exact hT | apply Tabs.drewN | apply Tabs.drew)); done) | exact Tabs.below hT (by repeat (first | (with_reducible first | exact HB.out | apply below_alloc | apply pw_below_drewN | apply below_drew1) | exact HB.out))); rintro e w7 ⟨rfl, hb⟩; have n0_ := Aside0.mk (below_step (by repeat (first | (with_reducible first | exact HB.out | apply below_alloc | apply pw_below_drewN | apply below_drew1) | exact HB.out)) hb); clear HB; have HB := n0_; clear n0_; (try clear hb); (try clear hb2); (try clear hk); (try clear hi)))
      repeat (go_quiet (first | (go_at_call 8; (with_reducible refine (decklelaw12_small.calls k  t319 _ ?side1 A3.out).mono ?_); (case side1 => first | exact hT | ((repeat (with_reducible first | exact hT | apply Tabs.drewN | apply Tabs.drew)); done) | exact Tabs.below hT (by repeat (first | (with_reducible first | exact HB.out | apply below_alloc | apply pw_below_drewN | apply below_drew1) | exact HB.out))); rintro e w7 ⟨rfl, hb⟩; have n0_ := Aside0.mk (below_step (by repeat (first | (with_reducible first | exact HB.out | apply below_alloc | apply pw_below_drewN | apply below_drew1) | exact HB.out)) hb); clear HB; have HB := n0_; clear n0_; (try clear hb); (try clear hb2); (try clear hk); (try clear hi))); try go_wp2_with (first | (go_at_call 8; (with_reducible refine (decklelaw12_small.calls k  t319 _ ?side1 A3.out).mono ?_); (case side1 => first | exact hT | ((repeat (with_reducible first | exact hT | apply Tabs.drewN | apply Tabs.drew)); done) | exact Tabs.below hT (by repeat (first | (with_reducible first | exact HB.out | apply below_alloc | apply pw_below_drewN | apply below_drew1) | exact HB.out))); rintro e w7 ⟨rfl, hb⟩; have n0_ := Aside0.mk (below_step (by repeat (first | (with_reducible first | exact HB.out | apply below_alloc | apply pw_below_drewN | apply below_drew1) | exact HB.out)) hb); clear HB; have HB := n0_; clear n0_; (try clear hb); (try clear hb2); (try clear hk); (try clear hi))))
      go_ret
      exact ⟨by first | rfl | (simp [errW_none, errW_some] <;> rfl) | (simp [*, errW_none, errW_some] <;> rfl) | (simp [errW_none, errW_some, bne_nil_, beq_nil_]; done) | (simp [*, errW_none, errW_some, bne_nil_, beq_nil_]; done), by repeat (first | (with_reducible first | exact HB.out | apply below_alloc | apply pw_below_drewN | apply below_drew1) | exact HB.out)⟩
    · rw [if_neg c6] at H
      have c6b0 : decide (300 < (a1.size : Int)) = false := decide_eq_false c6
      have c6b1 : decide (300 < a1.size) = false := decide_eq_false (by omega)
      clear c6
      replace H := Option.bind_eq_some_iff.mp H
      obtain ⟨⟨t320, t321, t322⟩, A80, H⟩ := H
      try dsimp only at H
      have A8 := Aside0.mk A80; clear A80
      replace H := Option.bind_eq_some_iff.mp H
      obtain ⟨⟨t325, t326, t327⟩, A90, H⟩ := H
      try dsimp only at H
      have A9 := Aside0.mk A90; clear A90
      have H' := Aside0.mk H
      clear H
      go_enter Tryd.func5, Tryd.ntmps5
      go_wp2_with (first | (go_at_call 8; (with_reducible refine (decklelaw12_small.calls k  t319 _ ?side1 A3.out).mono ?_); (case side1 => first | exact hT | ((repeat (with_reducible first | exact hT | apply Tabs.drewN | apply Tabs.drew)); done) | exact Tabs.below hT (by repeat (first | (with_reducible first | exact HB.out | apply below_alloc | apply pw_below_drewN | apply below_drew1) | exact HB.out))); rintro e w10 ⟨rfl, hb⟩; have n0_ := Aside0.mk (below_step (by repeat (first | (with_reducible first | exact HB.out | apply below_alloc | apply pw_below_drewN | apply below_drew1) | exact HB.out)) hb); clear HB; have HB := n0_; clear n0_; (try clear hb); (try clear hb2); (try clear hk); (try clear hi)) | (go_at_call 9; (with_reducible refine (number_Read.calls k a0 t320 t321 t322 _ ?side1 A8.out).mono ?_); (case side1 => first | exact hT | ((repeat (with_reducible first | exact hT | apply Tabs.drewN | apply Tabs.drew)); done) | exact Tabs.below hT (by repeat (first | (with_reducible first | exact HB.out | apply below_alloc | apply pw_below_drewN | apply below_drew1) | exact HB.out))); rintro e w11 ⟨v323, rfl, ho0, hb⟩; have n0_ := Aside0.mk (Kd.R_lower ho0 (below_size (by repeat (first | (with_reducible first | exact HB.out | apply below_alloc | apply pw_below_drewN | apply below_drew1) | exact HB.out)))); have n1_ := Aside0.mk (below_step (by repeat (first | (with_reducible first | exact HB.out | apply below_alloc | apply pw_below_drewN | apply below_drew1) | exact HB.out)) hb); clear HB; have HO324 := n0_; have HB := n1_; clear n0_ n1_; (try clear hb); (try clear hb2); (try clear hk); (try clear hi); (try clear ho0)) | (go_at_call 9; (with_reducible refine (number_Read.calls k a1 t325 t326 t327 _ ?side1 A9.out).mono ?_); (case side1 => first | exact hT | ((repeat (with_reducible first | exact hT | apply Tabs.drewN | apply Tabs.drew)); done) | exact Tabs.below hT (by repeat (first | (with_reducible first | exact HB.out | apply below_alloc | apply pw_below_drewN | apply below_drew1) | exact HB.out))); rintro e w12 ⟨v328, rfl, ho0, hb⟩; have n0_ := Aside0.mk (Kd.R_elder' (by (with_reducible repeat (first | apply Kd.R_alloc | apply Kd.R_drewN | apply Kd.R_drew)); exact HO324.out) (Kd.R_base ho0) hb); have n1_ := Aside0.mk (Kd.R_lower (Kd.R_new' ho0 (Kd.R_lt (by (with_reducible repeat (first | apply Kd.R_alloc | apply Kd.R_drewN | apply Kd.R_drew)); exact HO324.out))) (below_size (by repeat (first | (with_reducible first | exact HB.out | apply below_alloc | apply pw_below_drewN | apply below_drew1) | exact HB.out)))); have n2_ := Aside0.mk (below_step (by repeat (first | (with_reducible first | exact HB.out | apply below_alloc | apply pw_below_drewN | apply below_drew1) | exact HB.out)) hb); clear HO324; clear HB; have HO324 := n0_; have HO329 := n1_; have HB := n2_; clear n0_ n1_ n2_; (try clear hb); (try clear hb2); (try clear hk); (try clear hi); (try clear ho0)))
      repeat (go_quiet (first | (go_at_call 8; (with_reducible refine (decklelaw12_small.calls k  t319 _ ?side1 A3.out).mono ?_); (case side1 => first | exact hT | ((repeat (with_reducible first | exact hT | apply Tabs.drewN | apply Tabs.drew)); done) | exact Tabs.below hT (by repeat (first | (with_reducible first | exact HB.out | apply below_alloc | apply pw_below_drewN | apply below_drew1) | exact HB.out))); rintro e w10 ⟨rfl, hb⟩; have n0_ := Aside0.mk (below_step (by repeat (first | (with_reducible first | exact HB.out | apply below_alloc | apply pw_below_drewN | apply below_drew1) | exact HB.out)) hb); clear HB; have HB := n0_; clear n0_; (try clear hb); (try clear hb2); (try clear hk); (try clear hi)) | (go_at_call 9; (with_reducible refine (number_Read.calls k a0 t320 t321 t322 _ ?side1 A8.out).mono ?_); (case side1 => first | exact hT | ((repeat (with_reducible first | exact hT | apply Tabs.drewN | apply Tabs.drew)); done) | exact Tabs.below hT (by repeat (first | (with_reducible first | exact HB.out | apply below_alloc | apply pw_below_drewN | apply below_drew1) | exact HB.out))); rintro e w11 ⟨v323, rfl, ho0, hb⟩; have n0_ := Aside0.mk (Kd.R_lower ho0 (below_size (by repeat (first | (with_reducible first | exact HB.out | apply below_alloc | apply pw_below_drewN | apply below_drew1) | exact HB.out)))); have n1_ := Aside0.mk (below_step (by repeat (first | (with_reducible first | exact HB.out | apply below_alloc | apply pw_below_drewN | apply below_drew1) | exact HB.out)) hb); clear HB; have HO324 := n0_; have HB := n1_; clear n0_ n1_; (try clear hb); (try clear hb2); (try clear hk); (try clear hi); (try clear ho0)) | (go_at_call 9; (with_reducible refine (number_Read.calls k a1 t325 t326 t327 _ ?side1 A9.out).mono ?_); (case side1 => first | exact hT | ((repeat (with_reducible first | exact hT | apply Tabs.drewN | apply Tabs.drew)); done) | exact Tabs.below hT (by repeat (first | (with_reducible first | exact HB.out | apply below_alloc | apply pw_below_drewN | apply below_drew1) | exact HB.out))); rintro e w12 ⟨v328, rfl, ho0, hb⟩; have n0_ := Aside0.mk (Kd.R_elder' (by (with_reducible repeat (first | apply Kd.R_alloc | apply Kd.R_drewN | apply Kd.R_drew)); exact HO324.out) (Kd.R_base ho0) hb); have n1_ := Aside0.mk (Kd.R_lower (Kd.R_new' ho0 (Kd.R_lt (by (with_reducible repeat (first | apply Kd.R_alloc | apply Kd.R_drewN | apply Kd.R_drew)); exact HO324.out))) (below_size (by repeat (first | (with_reducible first | exact HB.out | apply below_alloc | apply pw_below_drewN | apply below_drew1) | exact HB.out)))); have n2_ := Aside0.mk (below_step (by repeat (first | (with_reducible first | exact HB.out | apply below_alloc | apply pw_below_drewN | apply below_drew1) | exact HB.out)) hb); clear HO324; clear HB; have HO324 := n0_; have HO329 := n1_; have HB := n2_; clear n0_ n1_ n2_; (try clear hb); (try clear hb2); (try clear hk); (try clear hi); (try clear ho0))); try go_wp2_with (first | (go_at_call 8; (with_reducible refine (decklelaw12_small.calls k  t319 _ ?side1 A3.out).mono ?_); (case side1 => first | exact hT | ((repeat (with_reducible first | exact hT | apply Tabs.drewN | apply Tabs.drew)); done) | exact Tabs.below hT (by repeat (first | (with_reducible first | exact HB.out | apply below_alloc | apply pw_below_drewN | apply below_drew1) | exact HB.out))); rintro e w10 ⟨rfl, hb⟩; have n0_ := Aside0.mk (below_step (by repeat (first | (with_reducible first | exact HB.out | apply below_alloc | apply pw_below_drewN | apply below_drew1) | exact HB.out)) hb); clear HB; have HB := n0_; clear n0_; (try clear hb); (try clear hb2); (try clear hk); (try clear hi)) | (go_at_call 9; (with_reducible refine (number_Read.calls k a0 t320 t321 t322 _ ?side1 A8.out).mono ?_); (case side1 => first | exact hT | ((repeat (with_reducible first | exact hT | apply Tabs.drewN | apply Tabs.drew)); done) | exact Tabs.below hT (by repeat (first | (with_reducible first | exact HB.out | apply below_alloc | apply pw_below_drewN | apply below_drew1) | exact HB.out))); rintro e w11 ⟨v323, rfl, ho0, hb⟩; have n0_ := Aside0.mk (Kd.R_lower ho0 (below_size (by repeat (first | (with_reducible first | exact HB.out | apply below_alloc | apply pw_below_drewN | apply below_drew1) | exact HB.out)))); have n1_ := Aside0.mk (below_step (by repeat (first | (with_reducible first | exact HB.out | apply below_alloc | apply pw_below_drewN | apply below_drew1) | exact HB.out)) hb); clear HB; have HO324 := n0_; have HB := n1_; clear n0_ n1_; (try clear hb); (try clear hb2); (try clear hk); (try clear hi); (try clear ho0)) | (go_at_call 9; (with_reducible refine (number_Read.calls k a1 t325 t326 t327 _ ?side1 A9.out).mono ?_); (case side1 => first | exact hT | ((repeat (with_reducible first | exact hT | apply Tabs.drewN | apply Tabs.drew)); done) | exact Tabs.below hT (by repeat (first | (with_reducible first | exact HB.out | apply below_alloc | apply pw_below_drewN | apply below_drew1) | exact HB.out))); rintro e w12 ⟨v328, rfl, ho0, hb⟩; have n0_ := Aside0.mk (Kd.R_elder' (by (with_reducible repeat (first | apply Kd.R_alloc | apply Kd.R_drewN | apply Kd.R_drew)); exact HO324.out) (Kd.R_base ho0) hb); have n1_ := Aside0.mk (Kd.R_lower (Kd.R_new' ho0 (Kd.R_lt (by (with_reducible repeat (first | apply Kd.R_alloc | apply Kd.R_drewN | apply Kd.R_drew)); exact HO324.out))) (below_size (by repeat (first | (with_reducible first | exact HB.out | apply below_alloc | apply pw_below_drewN | apply below_drew1) | exact HB.out)))); have n2_ := Aside0.mk (below_step (by repeat (first | (with_reducible first | exact HB.out | apply below_alloc | apply pw_below_drewN | apply below_drew1) | exact HB.out)) hb); clear HO324; clear HB; have HO324 := n0_; have HO329 := n1_; have HB := n2_; clear n0_ n1_ n2_; (try clear hb); (try clear hb2); (try clear hk); (try clear hi); (try clear ho0))))
      go_loopg [12] k (fun kq v12 w' => ∃ (x12_1 : Int), v12 = .int .i64 x12_1 ∧ Aside0 (decklelaw12_NumberParts_t.l0 kq a0 a1 t319 t320 t321 t322 t325 t326 t327 x12_1 = some r) ∧ Aside0 (kq ≤ k) ∧ Aside0 (Kd.R k28 28 w' w.heap.size (fun k_ => some k_ ≠ (v328 : Value).ownBlock) v323 t320) ∧ Aside0 (Kd.R k28 28 w' w.heap.size (fun k_ => some k_ ≠ (v323 : Value).ownBlock) v328 t325) ∧ Aside0 (Below w.heap.size w w'))
      case atStart => exact ⟨(0), (by first | rfl | (simp; done) | (simp [*]; done)), H', ⟨Nat.le_refl _⟩, ⟨by (with_reducible repeat (first | apply Kd.R_alloc | apply Kd.R_drewN | apply Kd.R_drew)); exact Kd.R_mono HO324.out (fun _ hk => hk.2)⟩, ⟨by (with_reducible repeat (first | apply Kd.R_alloc | apply Kd.R_drewN | apply Kd.R_drew)); exact Kd.R_mono HO329.out (fun _ hk => hk.2)⟩, ⟨by repeat (first | (with_reducible first | exact HB.out | apply below_alloc | apply pw_below_drewN | apply below_drew1) | exact HB.out)⟩⟩
      case round =>
        clear H'
        try clear p2
        try clear c4
        try clear c4b0
        try clear c4b1
        try clear c5
        try clear c6
        try clear c6b0
        try clear c6b1
        obtain ⟨x12_1, rfl, HA, HK1, HO_6, HO_9, HB⟩ := hrel
        cases gk with
        | zero => exact absurd HA.out (by simp [decklelaw12_NumberParts_t.l0])
        | succ k1 =>
          have H := HA.out
          clear HA
          simp only [decklelaw12_NumberParts_t.l0] at H
          by_cases c13 : x12_1 < (t320.length : Int)
          · rw [if_pos c13] at H
            have c13b0 : decide (x12_1 < (t320.length : Int)) = true := decide_eq_true c13
            clear c13
            by_cases c14 : 0 ≤ x12_1
            · rw [if_pos c14] at H
              have c14b0 : decide (0 ≤ x12_1) = true := decide_eq_true c14
              clear c14
              replace H := Option.bind_eq_some_iff.mp H
              obtain ⟨t331, A150, H⟩ := H
              have A15 := Aside0.mk A150; clear A150
              by_cases c16 : t331 = true
              · subst c16
                rw [if_pos rfl] at H
                have H' := Aside0.mk H
                clear H
                obtain ⟨Ao17, co17, eo17⟩ := Kd.R_slice HO_6.out
                subst eo17
                have p330 : 0 ≤ (x12_1 : Int) := of_decide_eq_true (by first | (with_reducible assumption) | assumption)
                have q330 : x12_1 < (t320.length : Int) := of_decide_eq_true (by first | (with_reducible assumption) | assumption)
                obtain ⟨ad330, e330, hx330_0, hx330_1⟩ := at_T28 (Kd.R_reads' HO_6.out).2.2 x12_1 p330 q330
                cases e330
                replace p330 := eq_true p330
                replace q330 := eq_true q330
                go_wp2_with (first | (go_at_call 16; (with_reducible refine (decimal_Right.calls k1 ((rd_T28 t320 x12_1).f0) ((rd_T28 t320 x12_1).f1) true _ ?side1 A15.out).mono ?_); (case side1 => first | exact hT | ((repeat (with_reducible first | exact hT | apply Tabs.drewN | apply Tabs.drew)); done) | exact Tabs.below hT (by repeat (first | (with_reducible first | exact HB.out | apply below_alloc | apply pw_below_drewN | apply below_drew1) | exact HB.out))); rintro e w18 ⟨rfl, hb⟩; have n0_ := Aside0.mk (Kd.R_below (by (with_reducible repeat (first | apply Kd.R_alloc | apply Kd.R_drewN | apply Kd.R_drew)); exact HO_6.out) hb); have n1_ := Aside0.mk (Kd.R_below (by (with_reducible repeat (first | apply Kd.R_alloc | apply Kd.R_drewN | apply Kd.R_drew)); exact HO_9.out) hb); have n2_ := Aside0.mk (below_step (by repeat (first | (with_reducible first | exact HB.out | apply below_alloc | apply pw_below_drewN | apply below_drew1) | exact HB.out)) hb); clear HO_6; clear HO_9; clear HB; have HO_6 := n0_; have HO_9 := n1_; have HB := n2_; clear n0_ n1_ n2_; (try clear hb); (try clear hb2); (try clear hk); (try clear hi)))
                repeat (go_quiet (first | (go_at_call 16; (with_reducible refine (decimal_Right.calls k1 ((rd_T28 t320 x12_1).f0) ((rd_T28 t320 x12_1).f1) true _ ?side1 A15.out).mono ?_); (case side1 => first | exact hT | ((repeat (with_reducible first | exact hT | apply Tabs.drewN | apply Tabs.drew)); done) | exact Tabs.below hT (by repeat (first | (with_reducible first | exact HB.out | apply below_alloc | apply pw_below_drewN | apply below_drew1) | exact HB.out))); rintro e w18 ⟨rfl, hb⟩; have n0_ := Aside0.mk (Kd.R_below (by (with_reducible repeat (first | apply Kd.R_alloc | apply Kd.R_drewN | apply Kd.R_drew)); exact HO_6.out) hb); have n1_ := Aside0.mk (Kd.R_below (by (with_reducible repeat (first | apply Kd.R_alloc | apply Kd.R_drewN | apply Kd.R_drew)); exact HO_9.out) hb); have n2_ := Aside0.mk (below_step (by repeat (first | (with_reducible first | exact HB.out | apply below_alloc | apply pw_below_drewN | apply below_drew1) | exact HB.out)) hb); clear HO_6; clear HO_9; clear HB; have HO_6 := n0_; have HO_9 := n1_; have HB := n2_; clear n0_ n1_ n2_; (try clear hb); (try clear hb2); (try clear hk); (try clear hi))); try go_wp2_with (first | (go_at_call 16; (with_reducible refine (decimal_Right.calls k1 ((rd_T28 t320 x12_1).f0) ((rd_T28 t320 x12_1).f1) true _ ?side1 A15.out).mono ?_); (case side1 => first | exact hT | ((repeat (with_reducible first | exact hT | apply Tabs.drewN | apply Tabs.drew)); done) | exact Tabs.below hT (by repeat (first | (with_reducible first | exact HB.out | apply below_alloc | apply pw_below_drewN | apply below_drew1) | exact HB.out))); rintro e w18 ⟨rfl, hb⟩; have n0_ := Aside0.mk (Kd.R_below (by (with_reducible repeat (first | apply Kd.R_alloc | apply Kd.R_drewN | apply Kd.R_drew)); exact HO_6.out) hb); have n1_ := Aside0.mk (Kd.R_below (by (with_reducible repeat (first | apply Kd.R_alloc | apply Kd.R_drewN | apply Kd.R_drew)); exact HO_9.out) hb); have n2_ := Aside0.mk (below_step (by repeat (first | (with_reducible first | exact HB.out | apply below_alloc | apply pw_below_drewN | apply below_drew1) | exact HB.out)) hb); clear HO_6; clear HO_9; clear HB; have HO_6 := n0_; have HO_9 := n1_; have HB := n2_; clear n0_ n1_ n2_; (try clear hb); (try clear hb2); (try clear hk); (try clear hi))))
                go_roundg k1
                case measure => have := HK1.out; omega
                case rel => exact ⟨(wrap64 (x12_1 + 1)), (by first | rfl | (simp; done) | (simp [*]; done)), H', ⟨by have := HK1.out; omega⟩, ⟨by (with_reducible repeat (first | apply Kd.R_alloc | apply Kd.R_drewN | apply Kd.R_drew)); exact HO_6.out⟩, ⟨by (with_reducible repeat (first | apply Kd.R_alloc | apply Kd.R_drewN | apply Kd.R_drew)); exact HO_9.out⟩, ⟨by repeat (first | (with_reducible first | exact HB.out | apply below_alloc | apply pw_below_drewN | apply below_drew1) | exact HB.out)⟩⟩
              · replace c16 := Bool.eq_false_iff.mpr c16
                subst c16
                rw [if_neg (show ¬ (false = true) by decide)] at H
                exact absurd (Option.some.inj H) (by rw [hr]; decide)
            · rw [if_neg c14] at H
              exact absurd H (by simp)
          · rw [if_neg c13] at H
            have c13b0 : decide (x12_1 < (t320.length : Int)) = false := decide_eq_false c13
            clear c13
            by_cases c19 : t322 = true
            · subst c19
              rw [if_pos rfl] at H
              by_cases c20 : t321.toList = ([] : List UInt8)
              · rw [if_pos c20] at H
                have c20b0 : (t321.toList == ([] : List UInt8)) = true := beq_iff_eq.mpr c20
                have c20b1 : (t321.toList != ([] : List UInt8)) = false := bne_eq_false_iff_eq.mpr c20
                clear c20
                by_cases c21 : t327 = true
                · subst c21
                  rw [if_pos rfl] at H
                  by_cases c22 : (t320.length : Int) = 0
                  · rw [if_pos c22] at H
                    have c22b0 : ((t320.length : Int) == 0) = true := beq_iff_eq.mpr c22
                    have c22b1 : ((t320.length : Int) != 0) = false := bne_eq_false_iff_eq.mpr c22
                    clear c22
                    by_cases c23 : t319 = true
                    · subst c23
                      rw [if_pos rfl] at H
                      by_cases c24 : (t320.length : Int) > 0
                      · rw [if_pos c24] at H
                        have c24b0 : decide (0 < (t320.length : Int)) = true := decide_eq_true c24
                        have c24b1 : decide (0 < t320.length) = true := decide_eq_true (by omega)
                        clear c24
                        by_cases c25 : (t321.size : Int) < (a0.size : Int)
                        · rw [if_pos c25] at H
                          have c25b0 : decide ((t321.size : Int) < (a0.size : Int)) = true := decide_eq_true c25
                          have c25b1 : decide (t321.size < a0.size) = true := decide_eq_true (Int.ofNat_lt.mp c25)
                          clear c25
                          obtain ⟨ji26, hji26⟩ : ∃ j_ : Int, (wrap64 ((a0.size : Int) - (t321.size : Int))) = j_ := ⟨_, rfl⟩
                          replace H : (if 0 ≤ (ji26) then (if (ji26) ≤ (a0.size : Int) then (some ((a0.extract ((ji26) : Int).toNat a0.size).toList == t321.toList)) else (none)) else (none)) = some r := by first | (rw [hji26] at H; exact H) | (simp only [hji26] at H ⊢; exact H)
                          have hji26w : (IntKind.i64.wrap ((a0.size : Int) - (t321.size : Int))) = ji26 := (i64_w _).trans hji26
                          by_cases c27 : 0 ≤ (ji26)
                          · rw [if_pos c27] at H
                            have c27b0 := eq_true c27
                            have c27b1 : decide (0 ≤ (ji26)) = true := decide_eq_true c27
                            clear c27
                            by_cases c28 : (ji26) ≤ (a0.size : Int)
                            · rw [if_pos c28] at H
                              have c28b0 := eq_true c28
                              have c28b1 : decide ((ji26) ≤ (a0.size : Int)) = true := decide_eq_true c28
                              clear c28
                              clear hr
                              obtain rfl := Option.some.inj H
                              obtain ⟨Ao29, co29, eo29⟩ := Kd.R_slice HO_6.out
                              subst eo29
                              go_wp2
                              repeat (go_quiet (fail); try go_wp2)
                              go_ret
                              exact ⟨by first | rfl | (simp [errW_none, errW_some] <;> rfl) | (simp only [← hji26]; first | rfl | (simp [errW_none, errW_some] <;> rfl)) | (simp [*, errW_none, errW_some] <;> rfl) | (simp [errW_none, errW_some, bne_nil_, beq_nil_]; done) | (simp [*, errW_none, errW_some, bne_nil_, beq_nil_]; done), by repeat (first | (with_reducible first | exact HB.out | apply below_alloc | apply pw_below_drewN | apply below_drew1) | exact HB.out)⟩
                            · rw [if_neg c28] at H
                              exact absurd H (by simp)
                          · rw [if_neg c27] at H
                            exact absurd H (by simp)
                        · rw [if_neg c25] at H
                          have c25b0 : decide ((t321.size : Int) < (a0.size : Int)) = false := decide_eq_false c25
                          have c25b1 : decide (t321.size < a0.size) = false := decide_eq_false (fun h => c25 (Int.ofNat_lt.mpr h))
                          clear c25
                          exact absurd (Option.some.inj H) (by rw [hr]; decide)
                      · rw [if_neg c24] at H
                        have c24b0 : decide (0 < (t320.length : Int)) = false := decide_eq_false c24
                        have c24b1 : decide (0 < t320.length) = false := decide_eq_false (by omega)
                        clear c24
                        exact absurd (Option.some.inj H) (by rw [hr]; decide)
                    · replace c23 := Bool.eq_false_iff.mpr c23
                      subst c23
                      rw [if_neg (show ¬ (false = true) by decide)] at H
                      exact absurd (Option.some.inj H) (by rw [hr]; decide)
                  · rw [if_neg c22] at H
                    have c22b0 : ((t320.length : Int) == 0) = false := beq_eq_false_iff_ne.mpr c22
                    have c22b1 : ((t320.length : Int) != 0) = true := bne_iff_ne.mpr c22
                    have c22b2 : ¬ (t320 = []) := fun h_ => c22 (by rw [h_]; rfl)
                    by_cases c30 : (t321.size : Int) > (a0.size : Int)
                    · rw [if_pos c30] at H
                      have c30b0 : decide ((a0.size : Int) < (t321.size : Int)) = true := decide_eq_true c30
                      have c30b1 : decide (a0.size < t321.size) = true := decide_eq_true (Int.ofNat_lt.mp c30)
                      clear c30
                      by_cases c31 : t319 = true
                      · subst c31
                        rw [if_pos rfl] at H
                        by_cases c32 : (t320.length : Int) > 0
                        · rw [if_pos c32] at H
                          have c32b0 : decide (0 < (t320.length : Int)) = true := decide_eq_true c32
                          have c32b1 : decide (0 < t320.length) = true := decide_eq_true (by omega)
                          clear c32
                          by_cases c33 : (t321.size : Int) < (a0.size : Int)
                          · rw [if_pos c33] at H
                            have c33b0 : decide ((t321.size : Int) < (a0.size : Int)) = true := decide_eq_true c33
                            have c33b1 : decide (t321.size < a0.size) = true := decide_eq_true (Int.ofNat_lt.mp c33)
                            clear c33
                            obtain ⟨ji34, hji34⟩ : ∃ j_ : Int, (wrap64 ((a0.size : Int) - (t321.size : Int))) = j_ := ⟨_, rfl⟩
                            replace H : (if 0 ≤ (ji34) then (if (ji34) ≤ (a0.size : Int) then (some ((a0.extract ((ji34) : Int).toNat a0.size).toList == t321.toList)) else (none)) else (none)) = some r := by first | (rw [hji34] at H; exact H) | (simp only [hji34] at H ⊢; exact H)
                            have hji34w : (IntKind.i64.wrap ((a0.size : Int) - (t321.size : Int))) = ji34 := (i64_w _).trans hji34
                            by_cases c35 : 0 ≤ (ji34)
                            · rw [if_pos c35] at H
                              have c35b0 := eq_true c35
                              have c35b1 : decide (0 ≤ (ji34)) = true := decide_eq_true c35
                              clear c35
                              by_cases c36 : (ji34) ≤ (a0.size : Int)
                              · rw [if_pos c36] at H
                                have c36b0 := eq_true c36
                                have c36b1 : decide ((ji34) ≤ (a0.size : Int)) = true := decide_eq_true c36
                                clear c36
                                clear hr
                                obtain rfl := Option.some.inj H
                                obtain ⟨Ao37, co37, eo37⟩ := Kd.R_slice HO_6.out
                                subst eo37
                                go_wp2
                                repeat (go_quiet (fail); try go_wp2)
                                go_ret
                                exact ⟨by first | rfl | (simp [errW_none, errW_some] <;> rfl) | (simp only [← hji34]; first | rfl | (simp [errW_none, errW_some] <;> rfl)) | (simp [*, errW_none, errW_some] <;> rfl) | (simp [errW_none, errW_some, bne_nil_, beq_nil_]; done) | (simp [*, errW_none, errW_some, bne_nil_, beq_nil_]; done), by repeat (first | (with_reducible first | exact HB.out | apply below_alloc | apply pw_below_drewN | apply below_drew1) | exact HB.out)⟩
                              · rw [if_neg c36] at H
                                exact absurd H (by simp)
                            · rw [if_neg c35] at H
                              exact absurd H (by simp)
                          · rw [if_neg c33] at H
                            have c33b0 : decide ((t321.size : Int) < (a0.size : Int)) = false := decide_eq_false c33
                            have c33b1 : decide (t321.size < a0.size) = false := decide_eq_false (fun h => c33 (Int.ofNat_lt.mpr h))
                            clear c33
                            exact absurd (Option.some.inj H) (by rw [hr]; decide)
                        · rw [if_neg c32] at H
                          have c32b0 : decide (0 < (t320.length : Int)) = false := decide_eq_false c32
                          have c32b1 : decide (0 < t320.length) = false := decide_eq_false (by omega)
                          clear c32
                          exact absurd (Option.some.inj H) (by rw [hr]; decide)
                      · replace c31 := Bool.eq_false_iff.mpr c31
                        subst c31
                        rw [if_neg (show ¬ (false = true) by decide)] at H
                        exact absurd (Option.some.inj H) (by rw [hr]; decide)
                    · rw [if_neg c30] at H
                      have c30b0 : decide ((a0.size : Int) < (t321.size : Int)) = false := decide_eq_false c30
                      have c30b1 : decide (a0.size < t321.size) = false := decide_eq_false (fun h => c30 (Int.ofNat_lt.mpr h))
                      clear c30
                      by_cases c38 : a0.size + 1 ≤ 9223372036854775807
                      · rw [if_pos c38] at H
                        have c38b0 := eq_true c38
                        have c38b1 : decide (a0.size + 1 ≤ 9223372036854775807) = true := decide_eq_true c38
                        try have c38b2 : (9223372036854775807 < a0.size + 1) = False := eq_false (Nat.not_lt.2 c38)
                        by_cases c39 : (a0 ++ (⟨#[32]⟩ : ByteArray)).size + a1.size ≤ 9223372036854775807
                        · rw [if_pos c39] at H
                          have c39b0 := eq_true c39
                          have c39b1 : decide ((a0 ++ (⟨#[32]⟩ : ByteArray)).size + a1.size ≤ 9223372036854775807) = true := decide_eq_true c39
                          try have c39b2 : (9223372036854775807 < (a0 ++ (⟨#[32]⟩ : ByteArray)).size + a1.size) = False := eq_false (Nat.not_lt.2 c39)
                          try have c39b3 : (9223372036854775807 < a0.size + 1 + a1.size) = False := eq_false (Nat.not_lt.2 (by have h_ := c39; simp only [ByteArray.size_append] at h_; exact h_))
                          replace H := Option.bind_eq_some_iff.mp H
                          obtain ⟨⟨t332, t333, t334⟩, A400, H⟩ := H
                          try dsimp only at H
                          have A40 := Aside0.mk A400; clear A400
                          by_cases c41 : t334 = true
                          · subst c41
                            rw [if_pos rfl] at H
                            by_cases c42 : t333.toList = t326.toList
                            · rw [if_pos c42] at H
                              have c42b0 : (t333.toList == t326.toList) = true := beq_iff_eq.mpr c42
                              have c42b1 : (t333.toList != t326.toList) = false := bne_eq_false_iff_eq.mpr c42
                              clear c42
                              by_cases c43 : (t332.length : Int) = (wrap64 ((t320.length : Int) + (t325.length : Int)))
                              · rw [if_pos c43] at H
                                have c43b0 : ((t332.length : Int) == (wrap64 ((t320.length : Int) + (t325.length : Int)))) = true := beq_iff_eq.mpr c43
                                have c43b1 : ((t332.length : Int) != (wrap64 ((t320.length : Int) + (t325.length : Int)))) = false := bne_eq_false_iff_eq.mpr c43
                                clear c43
                                have H' := Aside0.mk H
                                clear H
                                obtain ⟨Ao44, co44, eo44⟩ := Kd.R_slice HO_6.out
                                subst eo44
                                go_wp2_with (first | (go_at_call 9; (with_reducible refine (number_Read.calls k1 ((a0 ++ (⟨#[32]⟩ : ByteArray)) ++ a1) t332 t333 true _ ?side1 A40.out).mono ?_); (case side1 => first | exact hT | ((repeat (with_reducible first | exact hT | apply Tabs.drewN | apply Tabs.drew)); done) | exact Tabs.below hT (by repeat (first | (with_reducible first | exact HB.out | apply below_alloc | apply pw_below_drewN | apply below_drew1) | exact HB.out))); rintro e w45 ⟨v335, rfl, ho0, hb⟩; have n0_ := Aside0.mk (Kd.R_elder' (by (with_reducible repeat (first | apply Kd.R_alloc | apply Kd.R_drewN | apply Kd.R_drew)); exact HO_6.out) (Kd.R_base ho0) hb); have n1_ := Aside0.mk (Kd.R_elder' (by (with_reducible repeat (first | apply Kd.R_alloc | apply Kd.R_drewN | apply Kd.R_drew)); exact HO_9.out) (Kd.R_base ho0) hb); have n2_ := Aside0.mk (Kd.R_lower (Kd.R_new' (Kd.R_new' ho0 (Kd.R_lt (by (with_reducible repeat (first | apply Kd.R_alloc | apply Kd.R_drewN | apply Kd.R_drew)); exact HO_6.out))) (Kd.R_lt (by (with_reducible repeat (first | apply Kd.R_alloc | apply Kd.R_drewN | apply Kd.R_drew)); exact HO_9.out))) (below_size (by repeat (first | (with_reducible first | exact HB.out | apply below_alloc | apply pw_below_drewN | apply below_drew1) | exact HB.out)))); have n3_ := Aside0.mk (below_step (by repeat (first | (with_reducible first | exact HB.out | apply below_alloc | apply pw_below_drewN | apply below_drew1) | exact HB.out)) hb); clear HO_6; clear HO_9; clear HB; have HO_6 := n0_; have HO_9 := n1_; have HO336 := n2_; have HB := n3_; clear n0_ n1_ n2_ n3_; (try clear hb); (try clear hb2); (try clear hk); (try clear hi); (try clear ho0); obtain ⟨Ao46, co46, eo46⟩ := Kd.R_slice HO336.out; subst eo46; obtain ⟨Ao47, co47, eo47⟩ := Kd.R_slice HO_9.out; subst eo47))
                                repeat (go_quiet (first | (go_at_call 9; (with_reducible refine (number_Read.calls k1 ((a0 ++ (⟨#[32]⟩ : ByteArray)) ++ a1) t332 t333 true _ ?side1 A40.out).mono ?_); (case side1 => first | exact hT | ((repeat (with_reducible first | exact hT | apply Tabs.drewN | apply Tabs.drew)); done) | exact Tabs.below hT (by repeat (first | (with_reducible first | exact HB.out | apply below_alloc | apply pw_below_drewN | apply below_drew1) | exact HB.out))); rintro e w45 ⟨v335, rfl, ho0, hb⟩; have n0_ := Aside0.mk (Kd.R_elder' (by (with_reducible repeat (first | apply Kd.R_alloc | apply Kd.R_drewN | apply Kd.R_drew)); exact HO_6.out) (Kd.R_base ho0) hb); have n1_ := Aside0.mk (Kd.R_elder' (by (with_reducible repeat (first | apply Kd.R_alloc | apply Kd.R_drewN | apply Kd.R_drew)); exact HO_9.out) (Kd.R_base ho0) hb); have n2_ := Aside0.mk (Kd.R_lower (Kd.R_new' (Kd.R_new' ho0 (Kd.R_lt (by (with_reducible repeat (first | apply Kd.R_alloc | apply Kd.R_drewN | apply Kd.R_drew)); exact HO_6.out))) (Kd.R_lt (by (with_reducible repeat (first | apply Kd.R_alloc | apply Kd.R_drewN | apply Kd.R_drew)); exact HO_9.out))) (below_size (by repeat (first | (with_reducible first | exact HB.out | apply below_alloc | apply pw_below_drewN | apply below_drew1) | exact HB.out)))); have n3_ := Aside0.mk (below_step (by repeat (first | (with_reducible first | exact HB.out | apply below_alloc | apply pw_below_drewN | apply below_drew1) | exact HB.out)) hb); clear HO_6; clear HO_9; clear HB; have HO_6 := n0_; have HO_9 := n1_; have HO336 := n2_; have HB := n3_; clear n0_ n1_ n2_ n3_; (try clear hb); (try clear hb2); (try clear hk); (try clear hi); (try clear ho0); obtain ⟨Ao46, co46, eo46⟩ := Kd.R_slice HO336.out; subst eo46; obtain ⟨Ao47, co47, eo47⟩ := Kd.R_slice HO_9.out; subst eo47)); try go_wp2_with (first | (go_at_call 9; (with_reducible refine (number_Read.calls k1 ((a0 ++ (⟨#[32]⟩ : ByteArray)) ++ a1) t332 t333 true _ ?side1 A40.out).mono ?_); (case side1 => first | exact hT | ((repeat (with_reducible first | exact hT | apply Tabs.drewN | apply Tabs.drew)); done) | exact Tabs.below hT (by repeat (first | (with_reducible first | exact HB.out | apply below_alloc | apply pw_below_drewN | apply below_drew1) | exact HB.out))); rintro e w45 ⟨v335, rfl, ho0, hb⟩; have n0_ := Aside0.mk (Kd.R_elder' (by (with_reducible repeat (first | apply Kd.R_alloc | apply Kd.R_drewN | apply Kd.R_drew)); exact HO_6.out) (Kd.R_base ho0) hb); have n1_ := Aside0.mk (Kd.R_elder' (by (with_reducible repeat (first | apply Kd.R_alloc | apply Kd.R_drewN | apply Kd.R_drew)); exact HO_9.out) (Kd.R_base ho0) hb); have n2_ := Aside0.mk (Kd.R_lower (Kd.R_new' (Kd.R_new' ho0 (Kd.R_lt (by (with_reducible repeat (first | apply Kd.R_alloc | apply Kd.R_drewN | apply Kd.R_drew)); exact HO_6.out))) (Kd.R_lt (by (with_reducible repeat (first | apply Kd.R_alloc | apply Kd.R_drewN | apply Kd.R_drew)); exact HO_9.out))) (below_size (by repeat (first | (with_reducible first | exact HB.out | apply below_alloc | apply pw_below_drewN | apply below_drew1) | exact HB.out)))); have n3_ := Aside0.mk (below_step (by repeat (first | (with_reducible first | exact HB.out | apply below_alloc | apply pw_below_drewN | apply below_drew1) | exact HB.out)) hb); clear HO_6; clear HO_9; clear HB; have HO_6 := n0_; have HO_9 := n1_; have HO336 := n2_; have HB := n3_; clear n0_ n1_ n2_ n3_; (try clear hb); (try clear hb2); (try clear hk); (try clear hi); (try clear ho0); obtain ⟨Ao46, co46, eo46⟩ := Kd.R_slice HO336.out; subst eo46; obtain ⟨Ao47, co47, eo47⟩ := Kd.R_slice HO_9.out; subst eo47)))
                                go_loopg [16] k1 (fun kq v16 w' => ∃ (x16_2 : Int), v16 = .int .i64 x16_2 ∧ Aside0 (decklelaw12_NumberParts_t.l1 kq t319 t320 t325 t332 x16_2 = some r) ∧ Aside0 (kq ≤ k1) ∧ Aside0 (Kd.R k28 28 w' w.heap.size (fun k_ => some k_ ≠ ((.slice Ao47 t325.length co47) : Value).ownBlock ∧ some k_ ≠ ((.slice Ao46 t332.length co46) : Value).ownBlock) (.slice Ao44 t320.length co44) t320) ∧ Aside0 (Kd.R k28 28 w' w.heap.size (fun k_ => some k_ ≠ ((.slice Ao44 t320.length co44) : Value).ownBlock ∧ some k_ ≠ ((.slice Ao46 t332.length co46) : Value).ownBlock) (.slice Ao47 t325.length co47) t325) ∧ Aside0 (Kd.R k28 28 w' w.heap.size (fun k_ => some k_ ≠ ((.slice Ao44 t320.length co44) : Value).ownBlock ∧ some k_ ≠ ((.slice Ao47 t325.length co47) : Value).ownBlock) (.slice Ao46 t332.length co46) t332) ∧ Aside0 (Below w.heap.size w w'))
                                case atStart => exact ⟨(0), (by first | rfl | (simp; done) | (simp [*]; done)), H', ⟨Nat.le_refl _⟩, ⟨by (with_reducible repeat (first | apply Kd.R_alloc | apply Kd.R_drewN | apply Kd.R_drew)); exact HO_6.out⟩, ⟨by (with_reducible repeat (first | apply Kd.R_alloc | apply Kd.R_drewN | apply Kd.R_drew)); exact HO_9.out⟩, ⟨by (with_reducible repeat (first | apply Kd.R_alloc | apply Kd.R_drewN | apply Kd.R_drew)); exact Kd.R_mono HO336.out (fun _ hk => ⟨hk.1.2, hk.2⟩)⟩, ⟨by repeat (first | (with_reducible first | exact HB.out | apply below_alloc | apply pw_below_drewN | apply below_drew1) | exact HB.out)⟩⟩
                                case round =>
                                  clear H'
                                  try clear c1
                                  try clear c2
                                  try clear p2
                                  try clear c3
                                  try clear p3
                                  try clear q3
                                  try clear hx3
                                  try clear c4
                                  try clear c4b0
                                  try clear c4b1
                                  try clear c5
                                  try clear c6
                                  try clear c6b0
                                  try clear c6b1
                                  try clear p6
                                  try clear c13
                                  try clear c13b0
                                  try clear c14
                                  try clear c14b0
                                  try clear c16
                                  try clear c19
                                  try clear c20
                                  try clear c20b0
                                  try clear c20b1
                                  try clear c21
                                  try clear c22
                                  try clear c22b0
                                  try clear c22b1
                                  try clear c22b2
                                  try clear c23
                                  try clear c24
                                  try clear c24b0
                                  try clear c24b1
                                  try clear c25
                                  try clear c25b0
                                  try clear c25b1
                                  try clear c27
                                  try clear c27b0
                                  try clear c27b1
                                  try clear c28
                                  try clear c28b0
                                  try clear c28b1
                                  try clear c30
                                  try clear c30b0
                                  try clear c30b1
                                  try clear c31
                                  try clear c32
                                  try clear c32b0
                                  try clear c32b1
                                  try clear c33
                                  try clear c33b0
                                  try clear c33b1
                                  try clear p33
                                  try clear q33
                                  try clear hx33
                                  try clear c35
                                  try clear c35b0
                                  try clear c35b1
                                  try clear c36
                                  try clear c36b0
                                  try clear c36b1
                                  try clear c38
                                  try clear c38b0
                                  try clear c38b1
                                  try clear c38b2
                                  try clear c39
                                  try clear c39b0
                                  try clear c39b1
                                  try clear c39b2
                                  try clear c41
                                  try clear c42
                                  try clear c42b0
                                  try clear c42b1
                                  try clear c43
                                  try clear c43b0
                                  try clear c43b1
                                  try clear hx330_0
                                  try clear hx330_1
                                  try clear p2
                                  try clear p330
                                  try clear q330
                                  obtain ⟨x16_2, rfl, HA, HK2, HO_6, HO_9, HO_13, HB⟩ := hrel
                                  cases gk with
                                  | zero => exact absurd HA.out (by simp [decklelaw12_NumberParts_t.l1])
                                  | succ k2 =>
                                    have H := HA.out
                                    clear HA
                                    simp only [decklelaw12_NumberParts_t.l1] at H
                                    by_cases c48 : x16_2 < (t320.length : Int)
                                    · rw [if_pos c48] at H
                                      have c48b0 : decide (x16_2 < (t320.length : Int)) = true := decide_eq_true c48
                                      clear c48
                                      by_cases c49 : 0 ≤ x16_2
                                      · rw [if_pos c49] at H
                                        have c49b0 : decide (0 ≤ x16_2) = true := decide_eq_true c49
                                        clear c49
                                        by_cases c50 : x16_2 < (t332.length : Int)
                                        · rw [if_pos c50] at H
                                          have c50b0 : decide (x16_2 < (t332.length : Int)) = true := decide_eq_true c50
                                          clear c50
                                          by_cases c51 : (!(((rd_T28 t332 x16_2).f0) == ((rd_T28 t320 x16_2).f0)) || (!(((rd_T28 t332 x16_2).f1) == ((rd_T28 t320 x16_2).f1)))) = true
                                          · rw [if_pos c51] at H
                                            have c51b0 : (!(((rd_T28 t332 x16_2).f0) == ((rd_T28 t320 x16_2).f0)) || (!(((rd_T28 t332 x16_2).f1) == ((rd_T28 t320 x16_2).f1)))) = true := c51
                                            clear c51
                                            exact absurd (Option.some.inj H) (by rw [hr]; decide)
                                          · rw [if_neg c51] at H
                                            have c51b0 : (!(((rd_T28 t332 x16_2).f0) == ((rd_T28 t320 x16_2).f0)) || (!(((rd_T28 t332 x16_2).f1) == ((rd_T28 t320 x16_2).f1)))) = false := by simpa using c51
                                            clear c51
                                            have H' := Aside0.mk H
                                            clear H
                                            have p337 : 0 ≤ (x16_2 : Int) := of_decide_eq_true (by first | (with_reducible assumption) | assumption)
                                            have q337 : x16_2 < (t332.length : Int) := of_decide_eq_true (by first | (with_reducible assumption) | assumption)
                                            obtain ⟨ad337, e337, hx337_0, hx337_1⟩ := at_T28 (Kd.R_reads' HO_13.out).2.2 x16_2 p337 q337
                                            cases e337
                                            replace p337 := eq_true p337
                                            replace q337 := eq_true q337
                                            have p338 : 0 ≤ (x16_2 : Int) := of_decide_eq_true (by first | (with_reducible assumption) | assumption)
                                            have q338 : x16_2 < (t320.length : Int) := of_decide_eq_true (by first | (with_reducible assumption) | assumption)
                                            obtain ⟨ad338, e338, hx338_0, hx338_1⟩ := at_T28 (Kd.R_reads' HO_6.out).2.2 x16_2 p338 q338
                                            cases e338
                                            replace p338 := eq_true p338
                                            replace q338 := eq_true q338
                                            go_wp2
                                            repeat (go_quiet (fail); try go_wp2)
                                            go_roundg k2
                                            case measure => have := HK1.out; have := HK2.out; omega
                                            case rel => exact ⟨(wrap64 (x16_2 + 1)), (by first | rfl | (simp; done) | (simp [*]; done)), H', ⟨by have := HK1.out; have := HK2.out; omega⟩, ⟨by (with_reducible repeat (first | apply Kd.R_alloc | apply Kd.R_drewN | apply Kd.R_drew)); exact HO_6.out⟩, ⟨by (with_reducible repeat (first | apply Kd.R_alloc | apply Kd.R_drewN | apply Kd.R_drew)); exact HO_9.out⟩, ⟨by (with_reducible repeat (first | apply Kd.R_alloc | apply Kd.R_drewN | apply Kd.R_drew)); exact HO_13.out⟩, ⟨by repeat (first | (with_reducible first | exact HB.out | apply below_alloc | apply pw_below_drewN | apply below_drew1) | exact HB.out)⟩⟩
                                        · rw [if_neg c50] at H
                                          exact absurd H (by simp)
                                      · rw [if_neg c49] at H
                                        exact absurd H (by simp)
                                    · rw [if_neg c48] at H
                                      have c48b0 : decide (x16_2 < (t320.length : Int)) = false := decide_eq_false c48
                                      clear c48
                                      have H' := Aside0.mk H
                                      clear H
                                      go_wp2
                                      repeat (go_quiet (fail); try go_wp2)
                                      go_loopg [17] k2 (fun kq v17 w' => ∃ (x17_3 : Int), v17 = .int .i64 x17_3 ∧ Aside0 (decklelaw12_NumberParts_t.l2 kq t319 t320 t325 t332 x17_3 = some r) ∧ Aside0 (kq ≤ k2) ∧ Aside0 (Kd.R k28 28 w' w.heap.size (fun k_ => some k_ ≠ ((.slice Ao47 t325.length co47) : Value).ownBlock ∧ some k_ ≠ ((.slice Ao46 t332.length co46) : Value).ownBlock) (.slice Ao44 t320.length co44) t320) ∧ Aside0 (Kd.R k28 28 w' w.heap.size (fun k_ => some k_ ≠ ((.slice Ao44 t320.length co44) : Value).ownBlock ∧ some k_ ≠ ((.slice Ao46 t332.length co46) : Value).ownBlock) (.slice Ao47 t325.length co47) t325) ∧ Aside0 (Kd.R k28 28 w' w.heap.size (fun k_ => some k_ ≠ ((.slice Ao44 t320.length co44) : Value).ownBlock ∧ some k_ ≠ ((.slice Ao47 t325.length co47) : Value).ownBlock) (.slice Ao46 t332.length co46) t332) ∧ Aside0 (Below w.heap.size w w'))
                                      case atStart => exact ⟨(0), (by first | rfl | (simp; done) | (simp [*]; done)), H', ⟨Nat.le_refl _⟩, ⟨by (with_reducible repeat (first | apply Kd.R_alloc | apply Kd.R_drewN | apply Kd.R_drew)); exact HO_6.out⟩, ⟨by (with_reducible repeat (first | apply Kd.R_alloc | apply Kd.R_drewN | apply Kd.R_drew)); exact HO_9.out⟩, ⟨by (with_reducible repeat (first | apply Kd.R_alloc | apply Kd.R_drewN | apply Kd.R_drew)); exact HO_13.out⟩, ⟨by repeat (first | (with_reducible first | exact HB.out | apply below_alloc | apply pw_below_drewN | apply below_drew1) | exact HB.out)⟩⟩
                                      case round =>
                                        clear H'
                                        try clear c1
                                        try clear c2
                                        try clear p2
                                        try clear c3
                                        try clear p3
                                        try clear q3
                                        try clear hx3
                                        try clear c4
                                        try clear c4b0
                                        try clear c4b1
                                        try clear c5
                                        try clear c6
                                        try clear c6b0
                                        try clear c6b1
                                        try clear p6
                                        try clear c13
                                        try clear c13b0
                                        try clear c14
                                        try clear c14b0
                                        try clear c16
                                        try clear c19
                                        try clear c20
                                        try clear c20b0
                                        try clear c20b1
                                        try clear c21
                                        try clear c22
                                        try clear c22b0
                                        try clear c22b1
                                        try clear c22b2
                                        try clear c23
                                        try clear c24
                                        try clear c24b0
                                        try clear c24b1
                                        try clear c25
                                        try clear c25b0
                                        try clear c25b1
                                        try clear c27
                                        try clear c27b0
                                        try clear c27b1
                                        try clear c28
                                        try clear c28b0
                                        try clear c28b1
                                        try clear c30
                                        try clear c30b0
                                        try clear c30b1
                                        try clear c31
                                        try clear c32
                                        try clear c32b0
                                        try clear c32b1
                                        try clear c33
                                        try clear c33b0
                                        try clear c33b1
                                        try clear p33
                                        try clear q33
                                        try clear hx33
                                        try clear c35
                                        try clear c35b0
                                        try clear c35b1
                                        try clear c36
                                        try clear c36b0
                                        try clear c36b1
                                        try clear c38
                                        try clear c38b0
                                        try clear c38b1
                                        try clear c38b2
                                        try clear c39
                                        try clear c39b0
                                        try clear c39b1
                                        try clear c39b2
                                        try clear c41
                                        try clear c42
                                        try clear c42b0
                                        try clear c42b1
                                        try clear c43
                                        try clear c43b0
                                        try clear c43b1
                                        try clear c48
                                        try clear c48b0
                                        try clear c49
                                        try clear c49b0
                                        try clear c50
                                        try clear c50b0
                                        try clear c51
                                        try clear c51b0
                                        try clear hx330_0
                                        try clear hx330_1
                                        try clear hx337_0
                                        try clear hx337_1
                                        try clear hx338_0
                                        try clear hx338_1
                                        try clear p2
                                        try clear p3
                                        try clear p33
                                        try clear p330
                                        try clear p337
                                        try clear p338
                                        try clear p6
                                        try clear q3
                                        try clear q33
                                        try clear q330
                                        try clear q337
                                        try clear q338
                                        obtain ⟨x17_3, rfl, HA, HK3, HO_6, HO_9, HO_13, HB⟩ := hrel
                                        cases gk with
                                        | zero => exact absurd HA.out (by simp [decklelaw12_NumberParts_t.l2])
                                        | succ k3 =>
                                          have H := HA.out
                                          clear HA
                                          simp only [decklelaw12_NumberParts_t.l2] at H
                                          by_cases c52 : x17_3 < (t325.length : Int)
                                          · rw [if_pos c52] at H
                                            have c52b0 : decide (x17_3 < (t325.length : Int)) = true := decide_eq_true c52
                                            clear c52
                                            obtain ⟨ji53, hji53⟩ : ∃ j_ : Int, (wrap64 ((t320.length : Int) + x17_3)) = j_ := ⟨_, rfl⟩
                                            replace H : (if 0 ≤ (ji53) then (if (ji53) < (t332.length : Int) then (if 0 ≤ x17_3 then (if (!(((rd_T28 t332 (ji53)).f0) == ((rd_T28 t325 x17_3).f0)) || (!(((rd_T28 t332 (ji53)).f1) == ((rd_T28 t325 x17_3).f1)))) = true then (some false) else (decklelaw12_NumberParts_t.l2 k3 t319 t320 t325 t332 (wrap64 (x17_3 + 1)))) else (none)) else (none)) else (none)) = some r := by first | (rw [hji53] at H; exact H) | (simp only [hji53] at H ⊢; exact H)
                                            have hji53w : (IntKind.i64.wrap ((t320.length : Int) + x17_3)) = ji53 := (i64_w _).trans hji53
                                            by_cases c54 : 0 ≤ (ji53)
                                            · rw [if_pos c54] at H
                                              have c54b0 : decide (0 ≤ (ji53)) = true := decide_eq_true c54
                                              clear c54
                                              by_cases c55 : (ji53) < (t332.length : Int)
                                              · rw [if_pos c55] at H
                                                have c55b0 : decide ((ji53) < (t332.length : Int)) = true := decide_eq_true c55
                                                clear c55
                                                by_cases c56 : 0 ≤ x17_3
                                                · rw [if_pos c56] at H
                                                  have c56b0 : decide (0 ≤ x17_3) = true := decide_eq_true c56
                                                  clear c56
                                                  by_cases c57 : (!(((rd_T28 t332 (ji53)).f0) == ((rd_T28 t325 x17_3).f0)) || (!(((rd_T28 t332 (ji53)).f1) == ((rd_T28 t325 x17_3).f1)))) = true
                                                  · rw [if_pos c57] at H
                                                    have c57b0 : (!(((rd_T28 t332 (ji53)).f0) == ((rd_T28 t325 x17_3).f0)) || (!(((rd_T28 t332 (ji53)).f1) == ((rd_T28 t325 x17_3).f1)))) = true := c57
                                                    clear c57
                                                    exact absurd (Option.some.inj H) (by rw [hr]; decide)
                                                  · rw [if_neg c57] at H
                                                    have c57b0 : (!(((rd_T28 t332 (ji53)).f0) == ((rd_T28 t325 x17_3).f0)) || (!(((rd_T28 t332 (ji53)).f1) == ((rd_T28 t325 x17_3).f1)))) = false := by simpa using c57
                                                    clear c57
                                                    have H' := Aside0.mk H
                                                    clear H
                                                    have p339 : 0 ≤ ((ji53) : Int) := of_decide_eq_true (by first | (with_reducible assumption) | assumption)
                                                    have q339 : (ji53) < (t332.length : Int) := of_decide_eq_true (by first | (with_reducible assumption) | assumption)
                                                    obtain ⟨ad339, e339, hx339_0, hx339_1⟩ := at_T28 (Kd.R_reads' HO_13.out).2.2 (ji53) p339 q339
                                                    cases e339
                                                    replace p339 := eq_true p339
                                                    replace q339 := eq_true q339
                                                    have p340 : 0 ≤ (x17_3 : Int) := of_decide_eq_true (by first | (with_reducible assumption) | assumption)
                                                    have q340 : x17_3 < (t325.length : Int) := of_decide_eq_true (by first | (with_reducible assumption) | assumption)
                                                    obtain ⟨ad340, e340, hx340_0, hx340_1⟩ := at_T28 (Kd.R_reads' HO_9.out).2.2 x17_3 p340 q340
                                                    cases e340
                                                    replace p340 := eq_true p340
                                                    replace q340 := eq_true q340
                                                    go_wp2
                                                    repeat (go_quiet (fail); try go_wp2)
                                                    go_roundg k3
                                                    case measure => have := HK1.out; have := HK2.out; have := HK3.out; omega
                                                    case rel => exact ⟨(wrap64 (x17_3 + 1)), (by first | rfl | (simp; done) | (simp [*]; done)), H', ⟨by have := HK1.out; have := HK2.out; have := HK3.out; omega⟩, ⟨by (with_reducible repeat (first | apply Kd.R_alloc | apply Kd.R_drewN | apply Kd.R_drew)); exact HO_6.out⟩, ⟨by (with_reducible repeat (first | apply Kd.R_alloc | apply Kd.R_drewN | apply Kd.R_drew)); exact HO_9.out⟩, ⟨by (with_reducible repeat (first | apply Kd.R_alloc | apply Kd.R_drewN | apply Kd.R_drew)); exact HO_13.out⟩, ⟨by repeat (first | (with_reducible first | exact HB.out | apply below_alloc | apply pw_below_drewN | apply below_drew1) | exact HB.out)⟩⟩
                                                · rw [if_neg c56] at H
                                                  exact absurd H (by simp)
                                              · rw [if_neg c55] at H
                                                exact absurd H (by simp)
                                            · rw [if_neg c54] at H
                                              exact absurd H (by simp)
                                          · rw [if_neg c52] at H
                                            have c52b0 : decide (x17_3 < (t325.length : Int)) = false := decide_eq_false c52
                                            clear c52
                                            clear hr
                                            obtain rfl := Option.some.inj H
                                            go_wp2
                                            repeat (go_quiet (fail); try go_wp2)
                                            go_ret
                                            exact ⟨by first | rfl | (simp [errW_none, errW_some] <;> rfl) | (simp [*, errW_none, errW_some] <;> rfl) | (simp [errW_none, errW_some, bne_nil_, beq_nil_]; done) | (simp [*, errW_none, errW_some, bne_nil_, beq_nil_]; done), by repeat (first | (with_reducible first | exact HB.out | apply below_alloc | apply pw_below_drewN | apply below_drew1) | exact HB.out)⟩
                              · rw [if_neg c43] at H
                                have c43b0 : ((t332.length : Int) == (wrap64 ((t320.length : Int) + (t325.length : Int)))) = false := beq_eq_false_iff_ne.mpr c43
                                have c43b1 : ((t332.length : Int) != (wrap64 ((t320.length : Int) + (t325.length : Int)))) = true := bne_iff_ne.mpr c43
                                exact absurd (Option.some.inj H) (by rw [hr]; decide)
                            · rw [if_neg c42] at H
                              have c42b0 : (t333.toList == t326.toList) = false := beq_eq_false_iff_ne.mpr c42
                              have c42b1 : (t333.toList != t326.toList) = true := bne_iff_ne.mpr c42
                              exact absurd (Option.some.inj H) (by rw [hr]; decide)
                          · replace c41 := Bool.eq_false_iff.mpr c41
                            subst c41
                            rw [if_neg (show ¬ (false = true) by decide)] at H
                            exact absurd (Option.some.inj H) (by rw [hr]; decide)
                        · rw [if_neg c39] at H
                          exact absurd H (by simp)
                      · rw [if_neg c38] at H
                        exact absurd H (by simp)
                · replace c21 := Bool.eq_false_iff.mpr c21
                  subst c21
                  rw [if_neg (show ¬ (false = true) by decide)] at H
                  by_cases c58 : t319 = true
                  · subst c58
                    rw [if_pos rfl] at H
                    by_cases c59 : (t320.length : Int) > 0
                    · rw [if_pos c59] at H
                      have c59b0 : decide (0 < (t320.length : Int)) = true := decide_eq_true c59
                      have c59b1 : decide (0 < t320.length) = true := decide_eq_true (by omega)
                      clear c59
                      by_cases c60 : (t321.size : Int) < (a0.size : Int)
                      · rw [if_pos c60] at H
                        have c60b0 : decide ((t321.size : Int) < (a0.size : Int)) = true := decide_eq_true c60
                        have c60b1 : decide (t321.size < a0.size) = true := decide_eq_true (Int.ofNat_lt.mp c60)
                        clear c60
                        obtain ⟨ji61, hji61⟩ : ∃ j_ : Int, (wrap64 ((a0.size : Int) - (t321.size : Int))) = j_ := ⟨_, rfl⟩
                        replace H : (if 0 ≤ (ji61) then (if (ji61) ≤ (a0.size : Int) then (some ((a0.extract ((ji61) : Int).toNat a0.size).toList == t321.toList)) else (none)) else (none)) = some r := by first | (rw [hji61] at H; exact H) | (simp only [hji61] at H ⊢; exact H)
                        have hji61w : (IntKind.i64.wrap ((a0.size : Int) - (t321.size : Int))) = ji61 := (i64_w _).trans hji61
                        by_cases c62 : 0 ≤ (ji61)
                        · rw [if_pos c62] at H
                          have c62b0 := eq_true c62
                          have c62b1 : decide (0 ≤ (ji61)) = true := decide_eq_true c62
                          clear c62
                          by_cases c63 : (ji61) ≤ (a0.size : Int)
                          · rw [if_pos c63] at H
                            have c63b0 := eq_true c63
                            have c63b1 : decide ((ji61) ≤ (a0.size : Int)) = true := decide_eq_true c63
                            clear c63
                            clear hr
                            obtain rfl := Option.some.inj H
                            obtain ⟨Ao64, co64, eo64⟩ := Kd.R_slice HO_6.out
                            subst eo64
                            go_wp2
                            repeat (go_quiet (fail); try go_wp2)
                            go_ret
                            exact ⟨by first | rfl | (simp [errW_none, errW_some] <;> rfl) | (simp only [← hji61]; first | rfl | (simp [errW_none, errW_some] <;> rfl)) | (simp [*, errW_none, errW_some] <;> rfl) | (simp [errW_none, errW_some, bne_nil_, beq_nil_]; done) | (simp [*, errW_none, errW_some, bne_nil_, beq_nil_]; done), by repeat (first | (with_reducible first | exact HB.out | apply below_alloc | apply pw_below_drewN | apply below_drew1) | exact HB.out)⟩
                          · rw [if_neg c63] at H
                            exact absurd H (by simp)
                        · rw [if_neg c62] at H
                          exact absurd H (by simp)
                      · rw [if_neg c60] at H
                        have c60b0 : decide ((t321.size : Int) < (a0.size : Int)) = false := decide_eq_false c60
                        have c60b1 : decide (t321.size < a0.size) = false := decide_eq_false (fun h => c60 (Int.ofNat_lt.mpr h))
                        clear c60
                        exact absurd (Option.some.inj H) (by rw [hr]; decide)
                    · rw [if_neg c59] at H
                      have c59b0 : decide (0 < (t320.length : Int)) = false := decide_eq_false c59
                      have c59b1 : decide (0 < t320.length) = false := decide_eq_false (by omega)
                      clear c59
                      exact absurd (Option.some.inj H) (by rw [hr]; decide)
                  · replace c58 := Bool.eq_false_iff.mpr c58
                    subst c58
                    rw [if_neg (show ¬ (false = true) by decide)] at H
                    exact absurd (Option.some.inj H) (by rw [hr]; decide)
              · rw [if_neg c20] at H
                have c20b0 : (t321.toList == ([] : List UInt8)) = false := beq_eq_false_iff_ne.mpr c20
                have c20b1 : (t321.toList != ([] : List UInt8)) = true := bne_iff_ne.mpr c20
                by_cases c65 : t319 = true
                · subst c65
                  rw [if_pos rfl] at H
                  by_cases c66 : (t320.length : Int) > 0
                  · rw [if_pos c66] at H
                    have c66b0 : decide (0 < (t320.length : Int)) = true := decide_eq_true c66
                    have c66b1 : decide (0 < t320.length) = true := decide_eq_true (by omega)
                    clear c66
                    by_cases c67 : (t321.size : Int) < (a0.size : Int)
                    · rw [if_pos c67] at H
                      have c67b0 : decide ((t321.size : Int) < (a0.size : Int)) = true := decide_eq_true c67
                      have c67b1 : decide (t321.size < a0.size) = true := decide_eq_true (Int.ofNat_lt.mp c67)
                      clear c67
                      obtain ⟨ji68, hji68⟩ : ∃ j_ : Int, (wrap64 ((a0.size : Int) - (t321.size : Int))) = j_ := ⟨_, rfl⟩
                      replace H : (if 0 ≤ (ji68) then (if (ji68) ≤ (a0.size : Int) then (some ((a0.extract ((ji68) : Int).toNat a0.size).toList == t321.toList)) else (none)) else (none)) = some r := by first | (rw [hji68] at H; exact H) | (simp only [hji68] at H ⊢; exact H)
                      have hji68w : (IntKind.i64.wrap ((a0.size : Int) - (t321.size : Int))) = ji68 := (i64_w _).trans hji68
                      by_cases c69 : 0 ≤ (ji68)
                      · rw [if_pos c69] at H
                        have c69b0 := eq_true c69
                        have c69b1 : decide (0 ≤ (ji68)) = true := decide_eq_true c69
                        clear c69
                        by_cases c70 : (ji68) ≤ (a0.size : Int)
                        · rw [if_pos c70] at H
                          have c70b0 := eq_true c70
                          have c70b1 : decide ((ji68) ≤ (a0.size : Int)) = true := decide_eq_true c70
                          clear c70
                          clear hr
                          obtain rfl := Option.some.inj H
                          obtain ⟨Ao71, co71, eo71⟩ := Kd.R_slice HO_6.out
                          subst eo71
                          go_wp2
                          repeat (go_quiet (fail); try go_wp2)
                          go_ret
                          exact ⟨by first | rfl | (simp [errW_none, errW_some] <;> rfl) | (simp only [← hji68]; first | rfl | (simp [errW_none, errW_some] <;> rfl)) | (simp [*, errW_none, errW_some] <;> rfl) | (simp [errW_none, errW_some, bne_nil_, beq_nil_]; done) | (simp [*, errW_none, errW_some, bne_nil_, beq_nil_]; done), by repeat (first | (with_reducible first | exact HB.out | apply below_alloc | apply pw_below_drewN | apply below_drew1) | exact HB.out)⟩
                        · rw [if_neg c70] at H
                          exact absurd H (by simp)
                      · rw [if_neg c69] at H
                        exact absurd H (by simp)
                    · rw [if_neg c67] at H
                      have c67b0 : decide ((t321.size : Int) < (a0.size : Int)) = false := decide_eq_false c67
                      have c67b1 : decide (t321.size < a0.size) = false := decide_eq_false (fun h => c67 (Int.ofNat_lt.mpr h))
                      clear c67
                      exact absurd (Option.some.inj H) (by rw [hr]; decide)
                  · rw [if_neg c66] at H
                    have c66b0 : decide (0 < (t320.length : Int)) = false := decide_eq_false c66
                    have c66b1 : decide (0 < t320.length) = false := decide_eq_false (by omega)
                    clear c66
                    exact absurd (Option.some.inj H) (by rw [hr]; decide)
                · replace c65 := Bool.eq_false_iff.mpr c65
                  subst c65
                  rw [if_neg (show ¬ (false = true) by decide)] at H
                  exact absurd (Option.some.inj H) (by rw [hr]; decide)
            · replace c19 := Bool.eq_false_iff.mpr c19
              subst c19
              rw [if_neg (show ¬ (false = true) by decide)] at H
              by_cases c72 : t319 = true
              · subst c72
                rw [if_pos rfl] at H
                by_cases c73 : (t320.length : Int) = 0
                · rw [if_pos c73] at H
                  have c73b0 : ((t320.length : Int) == 0) = true := beq_iff_eq.mpr c73
                  have c73b1 : ((t320.length : Int) != 0) = false := bne_eq_false_iff_eq.mpr c73
                  clear c73
                  clear hr
                  obtain rfl := Option.some.inj H
                  obtain ⟨Ao74, co74, eo74⟩ := Kd.R_slice HO_6.out
                  subst eo74
                  go_wp2
                  repeat (go_quiet (fail); try go_wp2)
                  go_ret
                  exact ⟨by first | rfl | (simp [errW_none, errW_some] <;> rfl) | (simp [*, errW_none, errW_some] <;> rfl) | (simp [errW_none, errW_some, bne_nil_, beq_nil_]; done) | (simp [*, errW_none, errW_some, bne_nil_, beq_nil_]; done), by repeat (first | (with_reducible first | exact HB.out | apply below_alloc | apply pw_below_drewN | apply below_drew1) | exact HB.out)⟩
                · rw [if_neg c73] at H
                  have c73b0 : ((t320.length : Int) == 0) = false := beq_eq_false_iff_ne.mpr c73
                  have c73b1 : ((t320.length : Int) != 0) = true := bne_iff_ne.mpr c73
                  have c73b2 : ¬ (t320 = []) := fun h_ => c73 (by rw [h_]; rfl)
                  exact absurd (Option.some.inj H) (by rw [hr]; decide)
              · replace c72 := Bool.eq_false_iff.mpr c72
                subst c72
                rw [if_neg (show ¬ (false = true) by decide)] at H
                exact absurd (Option.some.inj H) (by rw [hr]; decide)

end Go.Proofs.YtbbonbhammfpjaaDoor.All
