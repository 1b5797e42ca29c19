-- Written for this claim by wip/tools/gprint.py out of the translation (it drives the kit's print). Lean checks it.
import Derived.Test.YtenngdkgahngjaaDoorAll0
import Derived.Test.YtenngdkgahngjaaDoorAll3
namespace Go.Proofs.YtenngdkgahngjaaDoor.All
open Go.RowKit Go.Proofs.YtenngdkgahngjaaDoorW.PrintWords Go.Proofs.YtenngdkgahngjaaDoorW.PrintLast Go.Proofs.YtenngdkgahngjaaDoorW.PrintMore Go.Proofs.YtenngdkgahngjaaDoor.G
attribute [local go_sem] max2_int min2_int max_two min_two max_three min_three max_four min_four str_leq str_gtr str_geq   -- for this text's walks alone
set_option linter.unusedVariables false
set_option linter.unusedSimpArgs false

/-! ### deckleref07_sign: function 23 -/
mutual
def deckleref07_sign.l0 : Nat → ByteArray → List Int → ByteArray → Int → Option (Int × Int)
  | 0, _, _, _, _ => none
  | k + 1, x0, x4, x5, x6 => if x6 < (x4.length : Int) then (if 0 ≤ x6 then (if x6 < (x5.size : Int) then (if 1 < (x0.size : Int) then (if (bt x5 x6) = (bt x0 1) then (some (rd x4 x6, 2)) else (deckleref07_sign.l0 k x0 x4 x5 (wrap64 (x6 + 1)))) else (none)) else (none)) else (none)) else (deckleref07_sign.l1 k x0 0 2)
def deckleref07_sign.l1 : Nat → ByteArray → Int → Int → Option (Int × Int)
  | 0, _, _, _ => none
  | k + 1, x0, x7, x8 => if x8 < (x0.size : Int) then (deckleref07_sign.j2 k x0 x7 x8 (decide (x8 < 10))) else (deckleref07_sign.j2 k x0 x7 x8 false)
def deckleref07_sign.j2 : Nat → ByteArray → Int → Int → Bool → Option (Int × Int)
  | 0, _, _, _, _ => none
  | k + 1, x0, x7, x8, x49 => if x49 = true then (if 0 ≤ x8 then (if x8 < (x0.size : Int) then (if (bt x0 x8) = 125 then (some (x7, wrap64 (x8 + 1))) else (if (bt x0 x8) ≥ 48 then (deckleref07_sign.j3 k x0 x7 x8 (decide ((bt x0 x8) ≤ 57))) else (deckleref07_sign.j3 k x0 x7 x8 false))) else (none)) else (none)) else (some (0, 0))
def deckleref07_sign.j3 : Nat → ByteArray → Int → Int → Bool → Option (Int × Int)
  | 0, _, _, _, _ => none
  | k + 1, x0, x7, x8, x60 => if x60 = true then (if 0 ≤ x8 then (if x8 < (x0.size : Int) then (deckleref07_sign.l1 k x0 (wrap64 ((wrap64 (16 * x7)) + (((bt x0 x8) - 48) % 256))) (wrap64 (x8 + 1))) else (none)) else (none)) else (if 0 ≤ x8 then (if x8 < (x0.size : Int) then (if (bt x0 x8) ≥ 65 then (if (bt x0 x8) ≤ 70 then (deckleref07_sign.l1 k x0 (wrap64 ((wrap64 (16 * x7)) + ((((bt x0 x8) - 65) % 256) + 10))) (wrap64 (x8 + 1))) else (some (0, 0))) else (some (0, 0))) else (none)) else (none))
end
def deckleref07_sign.f (k : Nat) (a0 : ByteArray) : Option (Int × Int) := if 0 < (a0.size : Int) then (if (bt a0 0) = 64 then (if (a0.size : Int) < 2 then (some (0, 0)) else (if 1 < (a0.size : Int) then (if (bt a0 1) = 64 then (some (64, 2)) else ((deckleref07_table.f).bind fun bt147 => (deckleref07_sign.l0 k a0 bt147.1 bt147.2 0))) else (none))) else (some (wrap64 (bt a0 0), 1))) else (none)
theorem deckleref07_sign.mono_l : ∀ k, (∀ y0 y1 y2 y3, LeO (deckleref07_sign.l0 k y0 y1 y2 y3) (deckleref07_sign.l0 (k + 1) y0 y1 y2 y3)) ∧ (∀ y0 y1 y2, LeO (deckleref07_sign.l1 k y0 y1 y2) (deckleref07_sign.l1 (k + 1) y0 y1 y2)) ∧ (∀ y0 y1 y2 y3, LeO (deckleref07_sign.j2 k y0 y1 y2 y3) (deckleref07_sign.j2 (k + 1) y0 y1 y2 y3)) ∧ (∀ y0 y1 y2 y3, LeO (deckleref07_sign.j3 k y0 y1 y2 y3) (deckleref07_sign.j3 (k + 1) y0 y1 y2 y3))
  | 0 => ⟨fun _ _ _ _ r h => by simp [deckleref07_sign.l0] at h, fun _ _ _ r h => by simp [deckleref07_sign.l1] at h, fun _ _ _ _ r h => by simp [deckleref07_sign.j2] at h, fun _ _ _ _ r h => by simp [deckleref07_sign.j3] at h⟩
  | k + 1 => by
    obtain ⟨ih0, ih1, ih2, ih3⟩ := deckleref07_sign.mono_l k
    refine ⟨?_, ?_, ?_, ?_⟩
    · intro y0 y1 y2 y3
      unfold deckleref07_sign.l0
      repeat' first
      | (with_reducible exact ih0 _ _ _ _)
      | (with_reducible exact ih1 _ _ _)
      | (with_reducible exact ih2 _ _ _ _)
      | (with_reducible exact ih3 _ _ _ _)
      | (with_reducible exact LeO.refl _)
      | (with_reducible exact LeO.none _)
      | (with_reducible refine LeO.ite ?_ ?_)
      | (with_reducible refine LeO.bind ?_ (fun _ => ?_))
      | exact ih0 _ _ _ _
      | exact ih1 _ _ _
      | exact ih2 _ _ _ _
      | exact ih3 _ _ _ _
      | exact LeO.none _
      | refine LeO.ite ?_ ?_
      | refine LeO.bind ?_ (fun _ => ?_)
    · intro y0 y1 y2
      unfold deckleref07_sign.l1
      repeat' first
      | (with_reducible exact ih0 _ _ _ _)
      | (with_reducible exact ih1 _ _ _)
      | (with_reducible exact ih2 _ _ _ _)
      | (with_reducible exact ih3 _ _ _ _)
      | (with_reducible exact LeO.refl _)
      | (with_reducible exact LeO.none _)
      | (with_reducible refine LeO.ite ?_ ?_)
      | (with_reducible refine LeO.bind ?_ (fun _ => ?_))
      | exact ih0 _ _ _ _
      | exact ih1 _ _ _
      | exact ih2 _ _ _ _
      | exact ih3 _ _ _ _
      | exact LeO.none _
      | refine LeO.ite ?_ ?_
      | refine LeO.bind ?_ (fun _ => ?_)
    · intro y0 y1 y2 y3
      unfold deckleref07_sign.j2
      repeat' first
      | (with_reducible exact ih0 _ _ _ _)
      | (with_reducible exact ih1 _ _ _)
      | (with_reducible exact ih2 _ _ _ _)
      | (with_reducible exact ih3 _ _ _ _)
      | (with_reducible exact LeO.refl _)
      | (with_reducible exact LeO.none _)
      | (with_reducible refine LeO.ite ?_ ?_)
      | (with_reducible refine LeO.bind ?_ (fun _ => ?_))
      | exact ih0 _ _ _ _
      | exact ih1 _ _ _
      | exact ih2 _ _ _ _
      | exact ih3 _ _ _ _
      | exact LeO.none _
      | refine LeO.ite ?_ ?_
      | refine LeO.bind ?_ (fun _ => ?_)
    · intro y0 y1 y2 y3
      unfold deckleref07_sign.j3
      repeat' first
      | (with_reducible exact ih0 _ _ _ _)
      | (with_reducible exact ih1 _ _ _)
      | (with_reducible exact ih2 _ _ _ _)
      | (with_reducible exact ih3 _ _ _ _)
      | (with_reducible exact LeO.refl _)
      | (with_reducible exact LeO.none _)
      | (with_reducible refine LeO.ite ?_ ?_)
      | (with_reducible refine LeO.bind ?_ (fun _ => ?_))
      | exact ih0 _ _ _ _
      | exact ih1 _ _ _
      | exact ih2 _ _ _ _
      | exact ih3 _ _ _ _
      | exact LeO.none _
      | refine LeO.ite ?_ ?_
      | refine LeO.bind ?_ (fun _ => ?_)
theorem deckleref07_sign.mono : ∀ a0 k, LeO (deckleref07_sign.f k a0) (deckleref07_sign.f (k + 1) a0) := by
  intro a0 k
  obtain ⟨ih0, ih1, ih2, ih3⟩ := deckleref07_sign.mono_l k
  unfold deckleref07_sign.f
  repeat' first
      | (with_reducible exact ih0 _ _ _ _)
      | (with_reducible exact ih1 _ _ _)
      | (with_reducible exact ih2 _ _ _ _)
      | (with_reducible exact ih3 _ _ _ _)
      | (with_reducible exact LeO.refl _)
      | (with_reducible exact LeO.none _)
      | (with_reducible refine LeO.ite ?_ ?_)
      | (with_reducible refine LeO.bind ?_ (fun _ => ?_))
      | exact ih0 _ _ _ _
      | exact ih1 _ _ _
      | exact ih2 _ _ _ _
      | exact ih3 _ _ _ _
      | exact LeO.none _
      | refine LeO.ite ?_ ?_
      | refine LeO.bind ?_ (fun _ => ?_)
set_option maxHeartbeats 8000000 in
set_option maxRecDepth 100000 in
theorem deckleref07_sign.calls (k : Nat) (a0 : ByteArray) (r1 : Int) (r2 : Int) (w : World) (hT : Tabs w) (h : deckleref07_sign.f k a0 = some (r1, r2)) :
    Calls Tryd.prog 23 #[.string a0] w fun e w' => e = .returned (.tuple #[.int .i64 r1, .int .i64 r2]) ∧ Below w.heap.size w w' := by
  have HB := Aside0.mk (Below.refl w.heap.size w)
  have H : (if 0 < (a0.size : Int) then (if (bt a0 0) = 64 then (if (a0.size : Int) < 2 then (some (0, 0)) else (if 1 < (a0.size : Int) then (if (bt a0 1) = 64 then (some (64, 2)) else ((deckleref07_table.f).bind fun bt147 => (deckleref07_sign.l0 k a0 bt147.1 bt147.2 0))) else (none))) else (some (wrap64 (bt a0 0), 1))) else (none)) = some (r1, r2) := h
  clear h
  by_cases c2 : 0 < (a0.size : Int)
  · rw [if_pos c2] at H
    have c2b0 : decide (0 < (a0.size : Int)) = true := decide_eq_true c2
    have c2b1 : decide (0 < a0.size) = true := decide_eq_true (by omega)
    clear c2
    by_cases c4 : (bt a0 0) = 64
    · rw [if_pos c4] at H
      have c4b0 : ((bt a0 0) == 64) = true := beq_iff_eq.mpr c4
      have c4b1 : ((bt a0 0) != 64) = false := bne_eq_false_iff_eq.mpr c4
      clear c4
      by_cases c5 : (a0.size : Int) < 2
      · rw [if_pos c5] at H
        have c5b0 : decide ((a0.size : Int) < 2) = true := decide_eq_true c5
        have c5b1 : decide (a0.size < 2) = true := decide_eq_true (by omega)
        clear c5
        simp only [Option.some.injEq, Prod.mk.injEq] at H
        obtain ⟨rfl, rfl⟩ := H
        have p3 : 0 ≤ (0 : Int) := (by omega)
        have q3 : 0 < a0.size := (by have : (0 : Int) < (a0.size : Int) := of_decide_eq_true (by first | (with_reducible assumption) | assumption); omega)
        have hx3 : ∀ h : 0 < a0.size, ((a0[0]'h).toNat : Int) = bt a0 0 := bt_at a0 0
        clear p3
        have qi3 : (0 < (a0.size : Int)) = True := eq_true (of_decide_eq_true (by first | (with_reducible assumption) | assumption))
        replace q3 := eq_true q3
        go_enter Tryd.func23, Tryd.ntmps23
        go_wp2
        repeat (go_quiet (fail); try go_wp2)
        go_ret2
        exact ⟨by first | rfl | (simp [errW_none, errW_some] <;> rfl) | (simp [*, errW_none, errW_some] <;> rfl) | (simp [errW_none, errW_some, bne_nil_, beq_nil_]; done) | (simp [*, errW_none, errW_some, bne_nil_, beq_nil_]; done), by repeat (first | (with_reducible first | exact HB.out | apply below_alloc | apply pw_below_drewN | apply below_drew1) | exact HB.out)⟩
      · rw [if_neg c5] at H
        have c5b0 : decide ((a0.size : Int) < 2) = false := decide_eq_false c5
        have c5b1 : decide (a0.size < 2) = false := decide_eq_false (by omega)
        clear c5
        by_cases c6 : 1 < (a0.size : Int)
        · rw [if_pos c6] at H
          have c6b0 : decide (1 < (a0.size : Int)) = true := decide_eq_true c6
          have c6b1 : decide (1 < a0.size) = true := decide_eq_true (by omega)
          clear c6
          by_cases c8 : (bt a0 1) = 64
          · rw [if_pos c8] at H
            have c8b0 : ((bt a0 1) == 64) = true := beq_iff_eq.mpr c8
            have c8b1 : ((bt a0 1) != 64) = false := bne_eq_false_iff_eq.mpr c8
            clear c8
            simp only [Option.some.injEq, Prod.mk.injEq] at H
            obtain ⟨rfl, rfl⟩ := H
            have p3 : 0 ≤ (0 : Int) := (by omega)
            have q3 : 0 < a0.size := (by have : (0 : Int) < (a0.size : Int) := of_decide_eq_true (by first | (with_reducible assumption) | assumption); omega)
            have hx3 : ∀ h : 0 < a0.size, ((a0[0]'h).toNat : Int) = bt a0 0 := bt_at a0 0
            clear p3
            have qi3 : (0 < (a0.size : Int)) = True := eq_true (of_decide_eq_true (by first | (with_reducible assumption) | assumption))
            replace q3 := eq_true q3
            have p7 : 0 ≤ (1 : Int) := (by omega)
            have q7 : 1 < a0.size := (by have : (1 : Int) < (a0.size : Int) := of_decide_eq_true (by first | (with_reducible assumption) | assumption); omega)
            have hx7 : ∀ h : 1 < a0.size, ((a0[1]'h).toNat : Int) = bt a0 1 := bt_at a0 1
            clear p7
            have qi7 : (1 < (a0.size : Int)) = True := eq_true (of_decide_eq_true (by first | (with_reducible assumption) | assumption))
            replace q7 := eq_true q7
            go_enter Tryd.func23, Tryd.ntmps23
            go_wp2
            repeat (go_quiet (fail); try go_wp2)
            go_ret2
            exact ⟨by first | rfl | (simp [errW_none, errW_some] <;> rfl) | (simp [*, errW_none, errW_some] <;> rfl) | (simp [errW_none, errW_some, bne_nil_, beq_nil_]; done) | (simp [*, errW_none, errW_some, bne_nil_, beq_nil_]; done), by repeat (first | (with_reducible first | exact HB.out | apply below_alloc | apply pw_below_drewN | apply below_drew1) | exact HB.out)⟩
          · rw [if_neg c8] at H
            have c8b0 : ((bt a0 1) == 64) = false := beq_eq_false_iff_ne.mpr c8
            have c8b1 : ((bt a0 1) != 64) = true := bne_iff_ne.mpr c8
            replace H := Option.bind_eq_some_iff.mp H
            obtain ⟨⟨t147, t148⟩, A90, H⟩ := H
            try dsimp only at H
            have A9 := Aside0.mk A90; clear A90
            have H' := Aside0.mk H
            clear H
            have p3 : 0 ≤ (0 : Int) := (by omega)
            have q3 : 0 < a0.size := (by have : (0 : Int) < (a0.size : Int) := of_decide_eq_true (by first | (with_reducible assumption) | assumption); omega)
            have hx3 : ∀ h : 0 < a0.size, ((a0[0]'h).toNat : Int) = bt a0 0 := bt_at a0 0
            clear p3
            have qi3 : (0 < (a0.size : Int)) = True := eq_true (of_decide_eq_true (by first | (with_reducible assumption) | assumption))
            replace q3 := eq_true q3
            have p7 : 0 ≤ (1 : Int) := (by omega)
            have q7 : 1 < a0.size := (by have : (1 : Int) < (a0.size : Int) := of_decide_eq_true (by first | (with_reducible assumption) | assumption); omega)
            have hx7 : ∀ h : 1 < a0.size, ((a0[1]'h).toNat : Int) = bt a0 1 := bt_at a0 1
            clear p7
            have qi7 : (1 < (a0.size : Int)) = True := eq_true (of_decide_eq_true (by first | (with_reducible assumption) | assumption))
            replace q7 := eq_true q7
            go_enter Tryd.func23, Tryd.ntmps23
            go_wp2_with (first | (go_at_call 32; (with_reducible refine (deckleref07_table.calls  t147 t148 _ ?side1 A9.out).mono ?_); (case side1 => first | exact hT | ((repeat (with_reducible first | exact hT | apply Tabs.drewN | apply Tabs.drew)); done) | exact Tabs.below hT (by repeat (first | (with_reducible first | exact HB.out | apply below_alloc | apply pw_below_drewN | apply below_drew1) | exact HB.out))); rintro e w10 ⟨v149, rfl, ho0, hb⟩; have n0_ := Aside0.mk (Kd.R_lower ho0 (below_size (by repeat (first | (with_reducible first | exact HB.out | apply below_alloc | apply pw_below_drewN | apply below_drew1) | exact HB.out)))); have n1_ := Aside0.mk (below_step (by repeat (first | (with_reducible first | exact HB.out | apply below_alloc | apply pw_below_drewN | apply below_drew1) | exact HB.out)) hb); clear HB; have HO150 := n0_; have HB := n1_; clear n0_ n1_; (try clear hb); (try clear hb2); (try clear hk); (try clear hi); (try clear ho0)))
            repeat (go_quiet (first | (go_at_call 32; (with_reducible refine (deckleref07_table.calls  t147 t148 _ ?side1 A9.out).mono ?_); (case side1 => first | exact hT | ((repeat (with_reducible first | exact hT | apply Tabs.drewN | apply Tabs.drew)); done) | exact Tabs.below hT (by repeat (first | (with_reducible first | exact HB.out | apply below_alloc | apply pw_below_drewN | apply below_drew1) | exact HB.out))); rintro e w10 ⟨v149, rfl, ho0, hb⟩; have n0_ := Aside0.mk (Kd.R_lower ho0 (below_size (by repeat (first | (with_reducible first | exact HB.out | apply below_alloc | apply pw_below_drewN | apply below_drew1) | exact HB.out)))); have n1_ := Aside0.mk (below_step (by repeat (first | (with_reducible first | exact HB.out | apply below_alloc | apply pw_below_drewN | apply below_drew1) | exact HB.out)) hb); clear HB; have HO150 := n0_; have HB := n1_; clear n0_ n1_; (try clear hb); (try clear hb2); (try clear hk); (try clear hi); (try clear ho0))); try go_wp2_with (first | (go_at_call 32; (with_reducible refine (deckleref07_table.calls  t147 t148 _ ?side1 A9.out).mono ?_); (case side1 => first | exact hT | ((repeat (with_reducible first | exact hT | apply Tabs.drewN | apply Tabs.drew)); done) | exact Tabs.below hT (by repeat (first | (with_reducible first | exact HB.out | apply below_alloc | apply pw_below_drewN | apply below_drew1) | exact HB.out))); rintro e w10 ⟨v149, rfl, ho0, hb⟩; have n0_ := Aside0.mk (Kd.R_lower ho0 (below_size (by repeat (first | (with_reducible first | exact HB.out | apply below_alloc | apply pw_below_drewN | apply below_drew1) | exact HB.out)))); have n1_ := Aside0.mk (below_step (by repeat (first | (with_reducible first | exact HB.out | apply below_alloc | apply pw_below_drewN | apply below_drew1) | exact HB.out)) hb); clear HB; have HO150 := n0_; have HB := n1_; clear n0_ n1_; (try clear hb); (try clear hb2); (try clear hk); (try clear hi); (try clear ho0))))
            go_loopg [6] k (fun kq v6 w' => ∃ (x6_1 : Int), v6 = .int .i64 x6_1 ∧ Aside0 (deckleref07_sign.l0 kq a0 t147 t148 x6_1 = some (r1, r2)) ∧ Aside0 (kq ≤ k) ∧ Aside0 (Kd.R (Kd.int .i64) 3 w' w.heap.size (fun _ => True) v149 t147) ∧ Aside0 (Below w.heap.size w w'))
            case atStart => exact ⟨(0), (by first | rfl | (simp; done) | (simp [*]; done)), H', ⟨Nat.le_refl _⟩, ⟨by (with_reducible repeat (first | apply Kd.R_alloc | apply Kd.R_drewN | apply Kd.R_drew)); exact HO150.out⟩, ⟨by repeat (first | (with_reducible first | exact HB.out | apply below_alloc | apply pw_below_drewN | apply below_drew1) | exact HB.out)⟩⟩
            case round =>
              clear H'
              try clear c2
              try clear c2b0
              try clear c2b1
              try clear p2
              try clear p3
              try clear q3
              try clear hx3
              try clear qi3
              try clear c4
              try clear c4b0
              try clear c4b1
              try clear c5
              try clear c5b0
              try clear c5b1
              try clear c6
              try clear c6b0
              try clear c6b1
              try clear p6
              try clear p7
              try clear q7
              try clear hx7
              try clear qi7
              try clear c8
              try clear c8b0
              try clear c8b1
              try clear p3
              try clear p7
              try clear q3
              try clear q7
              obtain ⟨x6_1, rfl, HA, HK1, HO_4, HB⟩ := hrel
              cases gk with
              | zero => exact absurd HA.out (by simp [deckleref07_sign.l0])
              | succ k1 =>
                have H := HA.out
                clear HA
                simp only [deckleref07_sign.l0] at H
                by_cases c11 : x6_1 < (t147.length : Int)
                · rw [if_pos c11] at H
                  have c11b0 : decide (x6_1 < (t147.length : Int)) = true := decide_eq_true c11
                  clear c11
                  by_cases c12 : 0 ≤ x6_1
                  · rw [if_pos c12] at H
                    have c12b0 : decide (0 ≤ x6_1) = true := decide_eq_true c12
                    clear c12
                    by_cases c13 : x6_1 < (t148.size : Int)
                    · rw [if_pos c13] at H
                      have c13b0 : decide (x6_1 < (t148.size : Int)) = true := decide_eq_true c13
                      clear c13
                      by_cases c15 : 1 < (a0.size : Int)
                      · rw [if_pos c15] at H
                        have c15b0 : decide (1 < (a0.size : Int)) = true := decide_eq_true c15
                        have c15b1 : decide (1 < a0.size) = true := decide_eq_true (by omega)
                        clear c15
                        by_cases c17 : (bt t148 x6_1) = (bt a0 1)
                        · rw [if_pos c17] at H
                          have c17b0 : ((bt t148 x6_1) == (bt a0 1)) = true := beq_iff_eq.mpr c17
                          have c17b1 : ((bt t148 x6_1) != (bt a0 1)) = false := bne_eq_false_iff_eq.mpr c17
                          clear c17
                          simp only [Option.some.injEq, Prod.mk.injEq] at H
                          obtain ⟨rfl, rfl⟩ := H
                          obtain ⟨Ao18, co18, eo18⟩ := Kd.R_slice HO_4.out
                          subst eo18
                          have p14 : 0 ≤ (x6_1 : Int) := of_decide_eq_true (by first | (with_reducible assumption) | assumption)
                          have q14 : x6_1 < (t148.size : Int) := of_decide_eq_true (by first | (with_reducible assumption) | assumption)
                          have hx14 := bt_at t148 x6_1
                          replace p14 := eq_true p14
                          replace q14 := eq_true q14
                          have p16 : 0 ≤ (1 : Int) := (by omega)
                          have q16 : 1 < a0.size := (by have : (1 : Int) < (a0.size : Int) := of_decide_eq_true (by first | (with_reducible assumption) | assumption); omega)
                          have hx16 : ∀ h : 1 < a0.size, ((a0[1]'h).toNat : Int) = bt a0 1 := bt_at a0 1
                          clear p16
                          have qi16 : (1 < (a0.size : Int)) = True := eq_true (of_decide_eq_true (by first | (with_reducible assumption) | assumption))
                          replace q16 := eq_true q16
                          have p151 : 0 ≤ (x6_1 : Int) := of_decide_eq_true (by first | (with_reducible assumption) | assumption)
                          have q151 : x6_1 < (t147.length : Int) := of_decide_eq_true (by first | (with_reducible assumption) | assumption)
                          obtain ⟨ad151, e151, hx151_0⟩ := Kd.at_int (Kd.R_reads' HO_4.out).2.2 x6_1 p151 q151
                          cases e151
                          replace p151 := eq_true p151
                          replace q151 := eq_true q151
                          go_wp2
                          repeat (go_quiet (fail); try go_wp2)
                          go_ret2
                          exact ⟨by first | rfl | (simp [errW_none, errW_some] <;> rfl) | (simp [*, errW_none, errW_some] <;> rfl) | (simp [errW_none, errW_some, bne_nil_, beq_nil_]; done) | (simp [*, errW_none, errW_some, bne_nil_, beq_nil_]; done), by repeat (first | (with_reducible first | exact HB.out | apply below_alloc | apply pw_below_drewN | apply below_drew1) | exact HB.out)⟩
                        · rw [if_neg c17] at H
                          have c17b0 : ((bt t148 x6_1) == (bt a0 1)) = false := beq_eq_false_iff_ne.mpr c17
                          have c17b1 : ((bt t148 x6_1) != (bt a0 1)) = true := bne_iff_ne.mpr c17
                          have H' := Aside0.mk H
                          clear H
                          obtain ⟨Ao19, co19, eo19⟩ := Kd.R_slice HO_4.out
                          subst eo19
                          have p14 : 0 ≤ (x6_1 : Int) := of_decide_eq_true (by first | (with_reducible assumption) | assumption)
                          have q14 : x6_1 < (t148.size : Int) := of_decide_eq_true (by first | (with_reducible assumption) | assumption)
                          have hx14 := bt_at t148 x6_1
                          replace p14 := eq_true p14
                          replace q14 := eq_true q14
                          have p16 : 0 ≤ (1 : Int) := (by omega)
                          have q16 : 1 < a0.size := (by have : (1 : Int) < (a0.size : Int) := of_decide_eq_true (by first | (with_reducible assumption) | assumption); omega)
                          have hx16 : ∀ h : 1 < a0.size, ((a0[1]'h).toNat : Int) = bt a0 1 := bt_at a0 1
                          clear p16
                          have qi16 : (1 < (a0.size : Int)) = True := eq_true (of_decide_eq_true (by first | (with_reducible assumption) | assumption))
                          replace q16 := eq_true q16
                          go_wp2
                          repeat (go_quiet (fail); try go_wp2)
                          go_roundg k1
                          case measure => have := HK1.out; omega
                          case rel => exact ⟨(wrap64 (x6_1 + 1)), (by first | rfl | (simp; done) | (simp [*]; done)), H', ⟨by have := HK1.out; omega⟩, ⟨by (with_reducible repeat (first | apply Kd.R_alloc | apply Kd.R_drewN | apply Kd.R_drew)); exact HO_4.out⟩, ⟨by repeat (first | (with_reducible first | exact HB.out | apply below_alloc | apply pw_below_drewN | apply below_drew1) | exact HB.out)⟩⟩
                      · rw [if_neg c15] at H
                        exact absurd H (by simp)
                    · rw [if_neg c13] at H
                      exact absurd H (by simp)
                  · rw [if_neg c12] at H
                    exact absurd H (by simp)
                · rw [if_neg c11] at H
                  have c11b0 : decide (x6_1 < (t147.length : Int)) = false := decide_eq_false c11
                  clear c11
                  have H' := Aside0.mk H
                  clear H
                  obtain ⟨Ao20, co20, eo20⟩ := Kd.R_slice HO_4.out
                  subst eo20
                  go_wp2
                  repeat (go_quiet (fail); try go_wp2)
                  go_loopg [7, 8] k1 (fun kq v7 v8 w' => ∃ (x7_2 : Int) (x8_2 : Int), v7 = .int .i64 x7_2 ∧ v8 = .int .i64 x8_2 ∧ Aside0 (deckleref07_sign.l1 kq a0 x7_2 x8_2 = some (r1, r2)) ∧ Aside0 (kq ≤ k1) ∧ Aside0 (Below w.heap.size w w'))
                  case atStart => exact ⟨(0), (2), (by first | rfl | (simp; done) | (simp [*]; done)), (by first | rfl | (simp; done) | (simp [*]; done)), H', ⟨Nat.le_refl _⟩, ⟨by repeat (first | (with_reducible first | exact HB.out | apply below_alloc | apply pw_below_drewN | apply below_drew1) | exact HB.out)⟩⟩
                  case round =>
                    clear H'
                    try clear c1
                    try clear p1
                    try clear q1
                    try clear hx1
                    try clear qi1
                    try clear c2
                    try clear c2b0
                    try clear c2b1
                    try clear p2
                    try clear p3
                    try clear q3
                    try clear hx3
                    try clear qi3
                    try clear c4
                    try clear c4b0
                    try clear c4b1
                    try clear c5
                    try clear c5b0
                    try clear c5b1
                    try clear c6
                    try clear c6b0
                    try clear c6b1
                    try clear p6
                    try clear p7
                    try clear q7
                    try clear hx7
                    try clear qi7
                    try clear c8
                    try clear c8b0
                    try clear c8b1
                    try clear c11
                    try clear c11b0
                    try clear c12
                    try clear c12b0
                    try clear c13
                    try clear c13b0
                    try clear p14
                    try clear q14
                    try clear hx14
                    try clear c15
                    try clear c15b0
                    try clear c15b1
                    try clear p15
                    try clear q15
                    try clear hx15
                    try clear p16
                    try clear q16
                    try clear hx16
                    try clear qi16
                    try clear c17
                    try clear c17b0
                    try clear c17b1
                    try clear hx151_0
                    try clear p14
                    try clear p151
                    try clear p16
                    try clear p2
                    try clear p3
                    try clear p6
                    try clear p7
                    try clear q14
                    try clear q151
                    try clear q16
                    try clear q3
                    try clear q7
                    obtain ⟨x7_2, x8_2, rfl, rfl, HA, HK2, HB⟩ := hrel
                    cases gk with
                    | zero => exact absurd HA.out (by simp [deckleref07_sign.l1])
                    | succ k2 =>
                      have H := HA.out
                      clear HA
                      simp only [deckleref07_sign.l1] at H
                      have HC21 := Aside0.mk H
                      clear H
                      go_upto_region 15 with (fail)
                      repeat (go_quiet (fail); go_upto_region 15 with (fail))
                      go_cut [49] (fun v49 wc => ∃ (kq : Nat) (x49_20 : Bool), v49 = .bool x49_20 ∧ Aside0 (deckleref07_sign.j2 kq a0 x7_2 x8_2 x49_20 = some (r1, r2)) ∧ Aside0 (kq ≤ k2) ∧ Aside0 (Below w.heap.size w wc))
                      case first =>
                        have H := HC21.out
                        clear HC21
                        by_cases c22 : x8_2 < (a0.size : Int)
                        · rw [if_pos c22] at H
                          have c22b0 : decide (x8_2 < (a0.size : Int)) = true := decide_eq_true c22
                          clear c22
                          (first | rw [c22b0] | (simp only [i64_w, i32_w]; rw [c22b0]) | skip)
                          have H' := Aside0.mk H
                          clear H
                          go_wp2
                          repeat (go_quiet (fail); try go_wp2)
                          go_meet
                          case rel => exact ⟨_, (decide (x8_2 < 10)), (by first | rfl | (simp; done) | (simp [*]; done)), H', ⟨by have := HK1.out; have := HK2.out; first | omega | exact Nat.le_refl _⟩, ⟨by repeat (first | (with_reducible first | exact HB.out | apply below_alloc | apply pw_below_drewN | apply below_drew1) | exact HB.out)⟩⟩
                        · rw [if_neg c22] at H
                          have c22b0 : decide (x8_2 < (a0.size : Int)) = false := decide_eq_false c22
                          clear c22
                          (first | rw [c22b0] | (simp only [i64_w, i32_w]; rw [c22b0]) | skip)
                          have H' := Aside0.mk H
                          clear H
                          go_wp2
                          repeat (go_quiet (fail); try go_wp2)
                          go_meet
                          case rel => exact ⟨_, (false), (by first | rfl | (simp; done) | (simp [*]; done)), H', ⟨by have := HK1.out; have := HK2.out; first | omega | exact Nat.le_refl _⟩, ⟨by repeat (first | (with_reducible first | exact HB.out | apply below_alloc | apply pw_below_drewN | apply below_drew1) | exact HB.out)⟩⟩
                      case rest =>
                        clear HC21
                        try clear c1
                        try clear p1
                        try clear q1
                        try clear hx1
                        try clear qi1
                        try clear c2
                        try clear c2b0
                        try clear c2b1
                        try clear p2
                        try clear p3
                        try clear q3
                        try clear hx3
                        try clear qi3
                        try clear c4
                        try clear c4b0
                        try clear c4b1
                        try clear c5
                        try clear c5b0
                        try clear c5b1
                        try clear c6
                        try clear c6b0
                        try clear c6b1
                        try clear p6
                        try clear p7
                        try clear q7
                        try clear hx7
                        try clear qi7
                        try clear c8
                        try clear c8b0
                        try clear c8b1
                        try clear c11
                        try clear c11b0
                        try clear c12
                        try clear c12b0
                        try clear c13
                        try clear c13b0
                        try clear p14
                        try clear q14
                        try clear hx14
                        try clear c15
                        try clear c15b0
                        try clear c15b1
                        try clear p15
                        try clear q15
                        try clear hx15
                        try clear p16
                        try clear q16
                        try clear hx16
                        try clear qi16
                        try clear c17
                        try clear c17b0
                        try clear c17b1
                        try clear c22
                        try clear c22b0
                        try clear hx151_0
                        try clear p1
                        try clear p14
                        try clear p15
                        try clear p151
                        try clear p16
                        try clear p2
                        try clear p3
                        try clear p6
                        try clear p7
                        try clear q1
                        try clear q14
                        try clear q15
                        try clear q151
                        try clear q16
                        try clear q3
                        try clear q7
                        obtain ⟨kq, x49_20, rfl, HA, HJ20, HB⟩ := hcut
                        cases kq with
                        | zero => exact absurd HA.out (by simp [deckleref07_sign.j2])
                        | succ kj20 =>
                          have H := HA.out
                          clear HA
                          simp only [deckleref07_sign.j2] at H
                          by_cases c23 : x49_20 = true
                          · subst c23
                            rw [if_pos rfl] at H
                            by_cases c24 : 0 ≤ x8_2
                            · rw [if_pos c24] at H
                              have c24b0 : decide (0 ≤ x8_2) = true := decide_eq_true c24
                              clear c24
                              by_cases c25 : x8_2 < (a0.size : Int)
                              · rw [if_pos c25] at H
                                have c25b0 : decide (x8_2 < (a0.size : Int)) = true := decide_eq_true c25
                                clear c25
                                by_cases c27 : (bt a0 x8_2) = 125
                                · rw [if_pos c27] at H
                                  have c27b0 : ((bt a0 x8_2) == 125) = true := beq_iff_eq.mpr c27
                                  have c27b1 : ((bt a0 x8_2) != 125) = false := bne_eq_false_iff_eq.mpr c27
                                  clear c27
                                  simp only [Option.some.injEq, Prod.mk.injEq] at H
                                  obtain ⟨rfl, rfl⟩ := H
                                  have p26 : 0 ≤ (x8_2 : Int) := of_decide_eq_true (by first | (with_reducible assumption) | assumption)
                                  have q26 : x8_2 < (a0.size : Int) := of_decide_eq_true (by first | (with_reducible assumption) | assumption)
                                  have hx26 := bt_at a0 x8_2
                                  replace p26 := eq_true p26
                                  replace q26 := eq_true q26
                                  go_wp2
                                  repeat (go_quiet (fail); try go_wp2)
                                  go_ret2
                                  exact ⟨by first | rfl | (simp [errW_none, errW_some] <;> rfl) | (simp [*, errW_none, errW_some] <;> rfl) | (simp [errW_none, errW_some, bne_nil_, beq_nil_]; done) | (simp [*, errW_none, errW_some, bne_nil_, beq_nil_]; done), by repeat (first | (with_reducible first | exact HB.out | apply below_alloc | apply pw_below_drewN | apply below_drew1) | exact HB.out)⟩
                                · rw [if_neg c27] at H
                                  have c27b0 : ((bt a0 x8_2) == 125) = false := beq_eq_false_iff_ne.mpr c27
                                  have c27b1 : ((bt a0 x8_2) != 125) = true := bne_iff_ne.mpr c27
                                  have HC28 := Aside0.mk H
                                  clear H
                                  have p26 : 0 ≤ (x8_2 : Int) := of_decide_eq_true (by first | (with_reducible assumption) | assumption)
                                  have q26 : x8_2 < (a0.size : Int) := of_decide_eq_true (by first | (with_reducible assumption) | assumption)
                                  have hx26 := bt_at a0 x8_2
                                  replace p26 := eq_true p26
                                  replace q26 := eq_true q26
                                  go_upto_region 21 with (fail)
                                  repeat (go_quiet (fail); go_upto_region 21 with (fail))
                                  go_cut [60] (fun v60 wc => ∃ (kq : Nat) (x60_27 : Bool), v60 = .bool x60_27 ∧ Aside0 (deckleref07_sign.j3 kq a0 x7_2 x8_2 x60_27 = some (r1, r2)) ∧ Aside0 (kq ≤ kj20) ∧ Aside0 (Below w.heap.size w wc))
                                  case first =>
                                    have H := HC28.out
                                    clear HC28
                                    by_cases c30 : (bt a0 x8_2) ≥ 48
                                    · rw [if_pos c30] at H
                                      have c30b0 : decide (48 ≤ (bt a0 x8_2)) = true := decide_eq_true c30
                                      clear c30
                                      (first | rw [c30b0] | (simp only [i64_w, i32_w]; rw [c30b0]) | skip)
                                      have H' := Aside0.mk H
                                      clear H
                                      have p29 : 0 ≤ (x8_2 : Int) := of_decide_eq_true (by first | (with_reducible assumption) | assumption)
                                      have q29 : x8_2 < (a0.size : Int) := of_decide_eq_true (by first | (with_reducible assumption) | assumption)
                                      have hx29 := bt_at a0 x8_2
                                      replace p29 := eq_true p29
                                      replace q29 := eq_true q29
                                      have p31 : 0 ≤ (x8_2 : Int) := of_decide_eq_true (by first | (with_reducible assumption) | assumption)
                                      have q31 : x8_2 < (a0.size : Int) := of_decide_eq_true (by first | (with_reducible assumption) | assumption)
                                      have hx31 := bt_at a0 x8_2
                                      replace p31 := eq_true p31
                                      replace q31 := eq_true q31
                                      go_wp2
                                      repeat (go_quiet (fail); try go_wp2)
                                      go_meet
                                      case rel => exact ⟨_, (decide ((bt a0 x8_2) ≤ 57)), (by first | rfl | (simp; done) | (simp [*]; done)), H', ⟨by have := HK1.out; have := HK2.out; have := HJ20.out; first | omega | exact Nat.le_refl _⟩, ⟨by repeat (first | (with_reducible first | exact HB.out | apply below_alloc | apply pw_below_drewN | apply below_drew1) | exact HB.out)⟩⟩
                                    · rw [if_neg c30] at H
                                      have c30b0 : decide (48 ≤ (bt a0 x8_2)) = false := decide_eq_false c30
                                      clear c30
                                      (first | rw [c30b0] | (simp only [i64_w, i32_w]; rw [c30b0]) | skip)
                                      have H' := Aside0.mk H
                                      clear H
                                      have p29 : 0 ≤ (x8_2 : Int) := of_decide_eq_true (by first | (with_reducible assumption) | assumption)
                                      have q29 : x8_2 < (a0.size : Int) := of_decide_eq_true (by first | (with_reducible assumption) | assumption)
                                      have hx29 := bt_at a0 x8_2
                                      replace p29 := eq_true p29
                                      replace q29 := eq_true q29
                                      go_wp2
                                      repeat (go_quiet (fail); try go_wp2)
                                      go_meet
                                      case rel => exact ⟨_, (false), (by first | rfl | (simp; done) | (simp [*]; done)), H', ⟨by have := HK1.out; have := HK2.out; have := HJ20.out; first | omega | exact Nat.le_refl _⟩, ⟨by repeat (first | (with_reducible first | exact HB.out | apply below_alloc | apply pw_below_drewN | apply below_drew1) | exact HB.out)⟩⟩
                                  case rest =>
                                    clear HC28
                                    try clear c1
                                    try clear p1
                                    try clear q1
                                    try clear hx1
                                    try clear qi1
                                    try clear c2
                                    try clear c2b0
                                    try clear c2b1
                                    try clear p2
                                    try clear q2
                                    try clear hx2
                                    try clear c3
                                    try clear p3
                                    try clear q3
                                    try clear hx3
                                    try clear qi3
                                    try clear c4
                                    try clear c4b0
                                    try clear c4b1
                                    try clear c5
                                    try clear c5b0
                                    try clear c5b1
                                    try clear c6
                                    try clear c6b0
                                    try clear c6b1
                                    try clear p6
                                    try clear p7
                                    try clear q7
                                    try clear hx7
                                    try clear qi7
                                    try clear c8
                                    try clear c8b0
                                    try clear c8b1
                                    try clear c11
                                    try clear c11b0
                                    try clear c12
                                    try clear c12b0
                                    try clear c13
                                    try clear c13b0
                                    try clear p14
                                    try clear q14
                                    try clear hx14
                                    try clear c15
                                    try clear c15b0
                                    try clear c15b1
                                    try clear p15
                                    try clear q15
                                    try clear hx15
                                    try clear p16
                                    try clear q16
                                    try clear hx16
                                    try clear qi16
                                    try clear c17
                                    try clear c17b0
                                    try clear c17b1
                                    try clear c22
                                    try clear c22b0
                                    try clear c23
                                    try clear c24
                                    try clear c24b0
                                    try clear c25
                                    try clear c25b0
                                    try clear p26
                                    try clear q26
                                    try clear hx26
                                    try clear c27
                                    try clear c27b0
                                    try clear c27b1
                                    try clear p29
                                    try clear q29
                                    try clear hx29
                                    try clear c30
                                    try clear c30b0
                                    try clear p31
                                    try clear q31
                                    try clear hx31
                                    try clear hx151_0
                                    try clear p1
                                    try clear p14
                                    try clear p15
                                    try clear p151
                                    try clear p16
                                    try clear p2
                                    try clear p26
                                    try clear p29
                                    try clear p3
                                    try clear p31
                                    try clear p6
                                    try clear p7
                                    try clear q1
                                    try clear q14
                                    try clear q15
                                    try clear q151
                                    try clear q16
                                    try clear q26
                                    try clear q29
                                    try clear q3
                                    try clear q31
                                    try clear q7
                                    obtain ⟨kq, x60_27, rfl, HA, HJ27, HB⟩ := hcut
                                    cases kq with
                                    | zero => exact absurd HA.out (by simp [deckleref07_sign.j3])
                                    | succ kj27 =>
                                      have H := HA.out
                                      clear HA
                                      simp only [deckleref07_sign.j3] at H
                                      by_cases c32 : x60_27 = true
                                      · subst c32
                                        rw [if_pos rfl] at H
                                        by_cases c33 : 0 ≤ x8_2
                                        · rw [if_pos c33] at H
                                          have c33b0 : decide (0 ≤ x8_2) = true := decide_eq_true c33
                                          clear c33
                                          by_cases c34 : x8_2 < (a0.size : Int)
                                          · rw [if_pos c34] at H
                                            have c34b0 : decide (x8_2 < (a0.size : Int)) = true := decide_eq_true c34
                                            clear c34
                                            have H' := Aside0.mk H
                                            clear H
                                            have p35 : 0 ≤ (x8_2 : Int) := of_decide_eq_true (by first | (with_reducible assumption) | assumption)
                                            have q35 : x8_2 < (a0.size : Int) := of_decide_eq_true (by first | (with_reducible assumption) | assumption)
                                            have hx35 := bt_at a0 x8_2
                                            replace p35 := eq_true p35
                                            replace q35 := eq_true q35
                                            go_wp2
                                            repeat (go_quiet (fail); try go_wp2)
                                            go_roundg kj27
                                            case measure => have := HK1.out; have := HK2.out; have := HJ20.out; have := HJ27.out; omega
                                            case rel => exact ⟨(wrap64 ((wrap64 (16 * x7_2)) + (((bt a0 x8_2) - 48) % 256))), (wrap64 (x8_2 + 1)), (by first | rfl | (simp; done) | (simp [*]; done)), (by first | rfl | (simp; done) | (simp [*]; done)), H', ⟨by have := HK1.out; have := HK2.out; have := HJ20.out; have := HJ27.out; omega⟩, ⟨by repeat (first | (with_reducible first | exact HB.out | apply below_alloc | apply pw_below_drewN | apply below_drew1) | exact HB.out)⟩⟩
                                          · rw [if_neg c34] at H
                                            exact absurd H (by simp)
                                        · rw [if_neg c33] at H
                                          exact absurd H (by simp)
                                      · replace c32 := Bool.eq_false_iff.mpr c32
                                        subst c32
                                        rw [if_neg (show ¬ (false = true) by decide)] at H
                                        by_cases c36 : 0 ≤ x8_2
                                        · rw [if_pos c36] at H
                                          have c36b0 : decide (0 ≤ x8_2) = true := decide_eq_true c36
                                          clear c36
                                          by_cases c37 : x8_2 < (a0.size : Int)
                                          · rw [if_pos c37] at H
                                            have c37b0 : decide (x8_2 < (a0.size : Int)) = true := decide_eq_true c37
                                            clear c37
                                            by_cases c39 : (bt a0 x8_2) ≥ 65
                                            · rw [if_pos c39] at H
                                              have c39b0 : decide (65 ≤ (bt a0 x8_2)) = true := decide_eq_true c39
                                              clear c39
                                              by_cases c41 : (bt a0 x8_2) ≤ 70
                                              · rw [if_pos c41] at H
                                                have c41b0 : decide ((bt a0 x8_2) ≤ 70) = true := decide_eq_true c41
                                                clear c41
                                                have H' := Aside0.mk H
                                                clear H
                                                have p38 : 0 ≤ (x8_2 : Int) := of_decide_eq_true (by first | (with_reducible assumption) | assumption)
                                                have q38 : x8_2 < (a0.size : Int) := of_decide_eq_true (by first | (with_reducible assumption) | assumption)
                                                have hx38 := bt_at a0 x8_2
                                                replace p38 := eq_true p38
                                                replace q38 := eq_true q38
                                                have p40 : 0 ≤ (x8_2 : Int) := of_decide_eq_true (by first | (with_reducible assumption) | assumption)
                                                have q40 : x8_2 < (a0.size : Int) := of_decide_eq_true (by first | (with_reducible assumption) | assumption)
                                                have hx40 := bt_at a0 x8_2
                                                replace p40 := eq_true p40
                                                replace q40 := eq_true q40
                                                have p42 : 0 ≤ (x8_2 : Int) := of_decide_eq_true (by first | (with_reducible assumption) | assumption)
                                                have q42 : x8_2 < (a0.size : Int) := of_decide_eq_true (by first | (with_reducible assumption) | assumption)
                                                have hx42 := bt_at a0 x8_2
                                                replace p42 := eq_true p42
                                                replace q42 := eq_true q42
                                                go_wp2
                                                repeat (go_quiet (fail); try go_wp2)
                                                go_roundg kj27
                                                case measure => have := HK1.out; have := HK2.out; have := HJ20.out; have := HJ27.out; omega
                                                case rel => exact ⟨(wrap64 ((wrap64 (16 * x7_2)) + ((((bt a0 x8_2) - 65) % 256) + 10))), (wrap64 (x8_2 + 1)), (by first | rfl | (simp; done) | (simp [*]; done)), (by first | rfl | (simp; done) | (simp [*]; done)), H', ⟨by have := HK1.out; have := HK2.out; have := HJ20.out; have := HJ27.out; omega⟩, ⟨by repeat (first | (with_reducible first | exact HB.out | apply below_alloc | apply pw_below_drewN | apply below_drew1) | exact HB.out)⟩⟩
                                              · rw [if_neg c41] at H
                                                have c41b0 : decide ((bt a0 x8_2) ≤ 70) = false := decide_eq_false c41
                                                clear c41
                                                simp only [Option.some.injEq, Prod.mk.injEq] at H
                                                obtain ⟨rfl, rfl⟩ := H
                                                have p38 : 0 ≤ (x8_2 : Int) := of_decide_eq_true (by first | (with_reducible assumption) | assumption)
                                                have q38 : x8_2 < (a0.size : Int) := of_decide_eq_true (by first | (with_reducible assumption) | assumption)
                                                have hx38 := bt_at a0 x8_2
                                                replace p38 := eq_true p38
                                                replace q38 := eq_true q38
                                                have p40 : 0 ≤ (x8_2 : Int) := of_decide_eq_true (by first | (with_reducible assumption) | assumption)
                                                have q40 : x8_2 < (a0.size : Int) := of_decide_eq_true (by first | (with_reducible assumption) | assumption)
                                                have hx40 := bt_at a0 x8_2
                                                replace p40 := eq_true p40
                                                replace q40 := eq_true q40
                                                go_wp2
                                                repeat (go_quiet (fail); try go_wp2)
                                                go_ret2
                                                exact ⟨by first | rfl | (simp [errW_none, errW_some] <;> rfl) | (simp [*, errW_none, errW_some] <;> rfl) | (simp [errW_none, errW_some, bne_nil_, beq_nil_]; done) | (simp [*, errW_none, errW_some, bne_nil_, beq_nil_]; done), by repeat (first | (with_reducible first | exact HB.out | apply below_alloc | apply pw_below_drewN | apply below_drew1) | exact HB.out)⟩
                                            · rw [if_neg c39] at H
                                              have c39b0 : decide (65 ≤ (bt a0 x8_2)) = false := decide_eq_false c39
                                              clear c39
                                              simp only [Option.some.injEq, Prod.mk.injEq] at H
                                              obtain ⟨rfl, rfl⟩ := H
                                              have p38 : 0 ≤ (x8_2 : Int) := of_decide_eq_true (by first | (with_reducible assumption) | assumption)
                                              have q38 : x8_2 < (a0.size : Int) := of_decide_eq_true (by first | (with_reducible assumption) | assumption)
                                              have hx38 := bt_at a0 x8_2
                                              replace p38 := eq_true p38
                                              replace q38 := eq_true q38
                                              go_wp2
                                              repeat (go_quiet (fail); try go_wp2)
                                              go_ret2
                                              exact ⟨by first | rfl | (simp [errW_none, errW_some] <;> rfl) | (simp [*, errW_none, errW_some] <;> rfl) | (simp [errW_none, errW_some, bne_nil_, beq_nil_]; done) | (simp [*, errW_none, errW_some, bne_nil_, beq_nil_]; done), by repeat (first | (with_reducible first | exact HB.out | apply below_alloc | apply pw_below_drewN | apply below_drew1) | exact HB.out)⟩
                                          · rw [if_neg c37] at H
                                            exact absurd H (by simp)
                                        · rw [if_neg c36] at H
                                          exact absurd H (by simp)
                              · rw [if_neg c25] at H
                                exact absurd H (by simp)
                            · rw [if_neg c24] at H
                              exact absurd H (by simp)
                          · replace c23 := Bool.eq_false_iff.mpr c23
                            subst c23
                            rw [if_neg (show ¬ (false = true) by decide)] at H
                            simp only [Option.some.injEq, Prod.mk.injEq] at H
                            obtain ⟨rfl, rfl⟩ := H
                            go_wp2
                            repeat (go_quiet (fail); try go_wp2)
                            go_ret2
                            exact ⟨by first | rfl | (simp [errW_none, errW_some] <;> rfl) | (simp [*, errW_none, errW_some] <;> rfl) | (simp [errW_none, errW_some, bne_nil_, beq_nil_]; done) | (simp [*, errW_none, errW_some, bne_nil_, beq_nil_]; done), by repeat (first | (with_reducible first | exact HB.out | apply below_alloc | apply pw_below_drewN | apply below_drew1) | exact HB.out)⟩
        · rw [if_neg c6] at H
          exact absurd H (by simp)
    · rw [if_neg c4] at H
      have c4b0 : ((bt a0 0) == 64) = false := beq_eq_false_iff_ne.mpr c4
      have c4b1 : ((bt a0 0) != 64) = true := bne_iff_ne.mpr c4
      simp only [Option.some.injEq, Prod.mk.injEq] at H
      obtain ⟨rfl, rfl⟩ := H
      have p3 : 0 ≤ (0 : Int) := (by omega)
      have q3 : 0 < a0.size := (by have : (0 : Int) < (a0.size : Int) := of_decide_eq_true (by first | (with_reducible assumption) | assumption); omega)
      have hx3 : ∀ h : 0 < a0.size, ((a0[0]'h).toNat : Int) = bt a0 0 := bt_at a0 0
      clear p3
      have qi3 : (0 < (a0.size : Int)) = True := eq_true (of_decide_eq_true (by first | (with_reducible assumption) | assumption))
      replace q3 := eq_true q3
      have p43 : 0 ≤ (0 : Int) := (by omega)
      have q43 : 0 < a0.size := (by have : (0 : Int) < (a0.size : Int) := of_decide_eq_true (by first | (with_reducible assumption) | assumption); omega)
      have hx43 : ∀ h : 0 < a0.size, ((a0[0]'h).toNat : Int) = bt a0 0 := bt_at a0 0
      clear p43
      have qi43 : (0 < (a0.size : Int)) = True := eq_true (of_decide_eq_true (by first | (with_reducible assumption) | assumption))
      replace q43 := eq_true q43
      go_enter Tryd.func23, Tryd.ntmps23
      go_wp2
      repeat (go_quiet (fail); try go_wp2)
      go_ret2
      exact ⟨by first | rfl | (simp [errW_none, errW_some] <;> rfl) | (simp [*, errW_none, errW_some] <;> rfl) | (simp [errW_none, errW_some, bne_nil_, beq_nil_]; done) | (simp [*, errW_none, errW_some, bne_nil_, beq_nil_]; done), by repeat (first | (with_reducible first | exact HB.out | apply below_alloc | apply pw_below_drewN | apply below_drew1) | exact HB.out)⟩
  · rw [if_neg c2] at H
    exact absurd H (by simp)

end Go.Proofs.YtenngdkgahngjaaDoor.All
