/- A text of this claim, cut to what is used. -/
import Derived.Test.YtfdeheodjkpkkaaGreatDoorP18All0
set_option linter.unusedVariables false
set_option linter.unusedSimpArgs false
set_option linter.unusedSectionVars false
-- Written for this claim by wip/tools/gprint.py out of the translation (it drives the kit's print). Lean checks it.
namespace Go.Proofs.YtfdeheodjkpkkaaGreatDoor.All
open Go.RowKit Go.Proofs.YtfdeheodjkpkkaaGreatDoorW.PrintWords Go.Proofs.YtfdeheodjkpkkaaGreatDoorW.PrintLast Go.Proofs.YtfdeheodjkpkkaaGreatDoorW.PrintMore Go.Proofs.YtfdeheodjkpkkaaGreatDoor.G
attribute [local go_sem] max2_int min2_int max_two min_two max_three min_three max_four min_four str_leq str_gtr str_geq   -- for this text's walks alone
set_option linter.unusedVariables false
set_option linter.unusedSimpArgs false

/-! ### decklelaw10_Few: function 30 -/
mutual
def decklelaw10_Few.l0 : Nat → List (S37) → Int → Int → Option (Bool)
  | 0, _, _, _ => none
  | k + 1, x0, x3, x4 => if x4 < (x0.length : Int) then (decklelaw10_Few.j1 k x0 x3 x4 (decide (x4 < 200))) else (decklelaw10_Few.j1 k x0 x3 x4 false)
def decklelaw10_Few.j1 : Nat → List (S37) → Int → Int → Bool → Option (Bool)
  | 0, _, _, _, _ => none
  | k + 1, x0, x3, x4, x12 => if x12 = true then (if 0 ≤ x4 then (if x4 < (x0.length : Int) then (if (((rd_T37 x0 x4).f1).length : Int) > 30 then (some false) else (if (((rd_T37 x0 x4).f2).length : Int) > 300 then (some false) else (if (((rd_T37 x0 x4).f3).length : Int) > 300 then (some false) else (decklelaw10_Few.l0 k x0 (wrap64 ((wrap64 (x3 + (((rd_T37 x0 x4).f2).length : Int))) + (((rd_T37 x0 x4).f3).length : Int))) (wrap64 (x4 + 1)))))) else (none)) else (none)) else (if (x0.length : Int) ≤ 100 then (some (decide (x3 ≤ 1000))) else (some false))
end
def decklelaw10_Few.f (k : Nat) (l0 : List (S37)) : Option (Bool) := decklelaw10_Few.l0 k l0 0 0
theorem decklelaw10_Few.mono_l : ∀ k, (∀ y0 y1 y2, LeO (decklelaw10_Few.l0 k y0 y1 y2) (decklelaw10_Few.l0 (k + 1) y0 y1 y2)) ∧ (∀ y0 y1 y2 y3, LeO (decklelaw10_Few.j1 k y0 y1 y2 y3) (decklelaw10_Few.j1 (k + 1) y0 y1 y2 y3))
  | 0 => ⟨fun _ _ _ r h => by simp [decklelaw10_Few.l0] at h, fun _ _ _ _ r h => by simp [decklelaw10_Few.j1] at h⟩
  | k + 1 => by
    obtain ⟨ih0, ih1⟩ := decklelaw10_Few.mono_l k
    refine ⟨?_, ?_⟩
    · intro y0 y1 y2
      unfold decklelaw10_Few.l0
      repeat' first
      | (with_reducible exact ih0 _ _ _)
      | (with_reducible exact ih1 _ _ _ _)
      | (with_reducible exact LeO.refl _)
      | (with_reducible exact LeO.none _)
      | (with_reducible refine LeO.ite ?_ ?_)
      | (with_reducible refine LeO.bind ?_ (fun _ => ?_))
      | exact ih0 _ _ _
      | exact ih1 _ _ _ _
      | exact LeO.none _
      | refine LeO.ite ?_ ?_
      | refine LeO.bind ?_ (fun _ => ?_)
    · intro y0 y1 y2 y3
      unfold decklelaw10_Few.j1
      repeat' first
      | (with_reducible exact ih0 _ _ _)
      | (with_reducible exact ih1 _ _ _ _)
      | (with_reducible exact LeO.refl _)
      | (with_reducible exact LeO.none _)
      | (with_reducible refine LeO.ite ?_ ?_)
      | (with_reducible refine LeO.bind ?_ (fun _ => ?_))
      | exact ih0 _ _ _
      | exact ih1 _ _ _ _
      | exact LeO.none _
      | refine LeO.ite ?_ ?_
      | refine LeO.bind ?_ (fun _ => ?_)
theorem decklelaw10_Few.mono : ∀ a0 k, LeO (decklelaw10_Few.f k a0) (decklelaw10_Few.f (k + 1) a0) := by
  intro a0 k
  obtain ⟨ih0, ih1⟩ := decklelaw10_Few.mono_l k
  unfold decklelaw10_Few.f
  repeat' first
      | (with_reducible exact ih0 _ _ _)
      | (with_reducible exact ih1 _ _ _ _)
      | (with_reducible exact LeO.refl _)
      | (with_reducible exact LeO.none _)
      | (with_reducible refine LeO.ite ?_ ?_)
      | (with_reducible refine LeO.bind ?_ (fun _ => ?_))
      | exact ih0 _ _ _
      | exact ih1 _ _ _ _
      | exact LeO.none _
      | refine LeO.ite ?_ ?_
      | refine LeO.bind ?_ (fun _ => ?_)
set_option maxHeartbeats 8000000 in
set_option maxRecDepth 100000 in
theorem decklelaw10_Few.calls (k : Nat) (A0 : Option Addr) (c0 : Nat) (l0 : List (S37)) (r : Bool) (w : World) (hT : Tabs w) (hr0 : Kd.C k37 w A0 l0.length l0) (hc0 : l0.length ≤ c0) (h : decklelaw10_Few.f k l0 = some r) :
    Calls Tryz.prog 30 #[.slice A0 l0.length c0] w fun e w' => e = .returned (.bool r) ∧ Drawn0 w w' := by
  have HR0 := Aside0.mk hr0
  have HC0 := Aside0.mk hc0
  clear hr0 hc0
  have H : (decklelaw10_Few.l0 k l0 0 0) = some r := h
  clear h
  have H' := Aside0.mk H
  clear H
  go_enter Tryz.func30, Tryz.ntmps30
  go_wp2
  repeat (go_quiet (fail); try go_wp2)
  go_loopg [3, 4] k (fun kq v3 v4 w' => ∃ (x3_1 : Int) (x4_1 : Int), v3 = .int .i64 x3_1 ∧ v4 = .int .i64 x4_1 ∧ Aside0 (decklelaw10_Few.l0 kq l0 x3_1 x4_1 = some r) ∧ Aside0 (kq ≤ k) ∧ Drawn0 w w')
  case atStart => exact ⟨(0), (0), (by first | rfl | (simp; done) | (simp [*]; done)), (by first | rfl | (simp; done) | (simp [*]; done)), H', ⟨Nat.le_refl _⟩, by repeat (first | exact Drawn0.refl _ | apply Drawn0.step)⟩
  case round =>
    clear H'
    obtain ⟨x3_1, x4_1, rfl, rfl, HA, HK1, ⟨m1, rfl⟩⟩ := hrel
    cases gk with
    | zero => exact absurd HA.out (by simp [decklelaw10_Few.l0])
    | succ k1 =>
      have H := HA.out
      clear HA
      simp only [decklelaw10_Few.l0] at H
      have HC2 := Aside0.mk H
      clear H
      go_upto_region 3 with (fail)
      repeat (go_quiet (fail); go_upto_region 3 with (fail))
      go_cut [12] (fun v12 wc => ∃ (kq : Nat) (x12_1 : Bool), v12 = .bool x12_1 ∧ Aside0 (decklelaw10_Few.j1 kq l0 x3_1 x4_1 x12_1 = some r) ∧ Aside0 (kq ≤ k1) ∧ Drawn0 w wc)
      case first =>
        have H := HC2.out
        clear HC2
        by_cases c3 : x4_1 < (l0.length : Int)
        · rw [if_pos c3] at H
          have c3b0 : decide (x4_1 < (l0.length : Int)) = true := decide_eq_true c3
          clear c3
          (first | rw [c3b0] | (simp only [i64_w, i32_w]; rw [c3b0]) | skip)
          have H' := Aside0.mk H
          clear H
          go_wp2
          repeat (go_quiet (fail); try go_wp2)
          go_meet
          case rel => exact ⟨_, (decide (x4_1 < 200)), (by first | rfl | (simp; done) | (simp [*]; done)), H', ⟨by have := HK1.out; first | omega | exact Nat.le_refl _⟩, by repeat (first | exact Drawn0.refl _ | apply Drawn0.step)⟩
        · rw [if_neg c3] at H
          have c3b0 : decide (x4_1 < (l0.length : Int)) = false := decide_eq_false c3
          clear c3
          (first | rw [c3b0] | (simp only [i64_w, i32_w]; rw [c3b0]) | skip)
          have H' := Aside0.mk H
          clear H
          go_wp2
          repeat (go_quiet (fail); try go_wp2)
          go_meet
          case rel => exact ⟨_, (false), (by first | rfl | (simp; done) | (simp [*]; done)), H', ⟨by have := HK1.out; first | omega | exact Nat.le_refl _⟩, by repeat (first | exact Drawn0.refl _ | apply Drawn0.step)⟩
      case rest =>
        clear HC2
        try clear p2
        try clear c3
        try clear c3b0
        obtain ⟨kq, x12_1, rfl, HA, HJ1, ⟨mc1, rfl⟩⟩ := hcut
        cases kq with
        | zero => exact absurd HA.out (by simp [decklelaw10_Few.j1])
        | succ kj1 =>
          have H := HA.out
          clear HA
          simp only [decklelaw10_Few.j1] at H
          by_cases c4 : x12_1 = true
          · subst c4
            rw [if_pos rfl] at H
            by_cases c5 : 0 ≤ x4_1
            · rw [if_pos c5] at H
              have c5b0 : decide (0 ≤ x4_1) = true := decide_eq_true c5
              clear c5
              by_cases c6 : x4_1 < (l0.length : Int)
              · rw [if_pos c6] at H
                have c6b0 : decide (x4_1 < (l0.length : Int)) = true := decide_eq_true c6
                clear c6
                by_cases c7 : (((rd_T37 l0 x4_1).f1).length : Int) > 30
                · rw [if_pos c7] at H
                  have c7b0 : decide (30 < (((rd_T37 l0 x4_1).f1).length : Int)) = true := decide_eq_true c7
                  have c7b1 : decide (30 < ((rd_T37 l0 x4_1).f1).length) = true := decide_eq_true (by omega)
                  clear c7
                  obtain rfl := Option.some.inj H
                  have p140 : 0 ≤ (x4_1 : Int) := of_decide_eq_true (by first | (with_reducible assumption) | assumption)
                  have q140 : x4_1 < (l0.length : Int) := of_decide_eq_true (by first | (with_reducible assumption) | assumption)
                  obtain ⟨ad140, A140_1, c140_1, A140_2, c140_2, A140_3, c140_3, e140, hx140_0, hx140_1, hx140_2, hx140_3, hl140_1, hi140_1, hl140_2, hi140_2, hl140_3, hi140_3⟩ := at_T37 HR0.out x4_1 p140 q140
                  cases e140
                  have HR140_1 := Aside0.mk hi140_1
                  have HC140_1 := Aside0.mk hl140_1
                  clear hi140_1 hl140_1
                  have HR140_2 := Aside0.mk hi140_2
                  have HC140_2 := Aside0.mk hl140_2
                  clear hi140_2 hl140_2
                  have HR140_3 := Aside0.mk hi140_3
                  have HC140_3 := Aside0.mk hl140_3
                  clear hi140_3 hl140_3
                  replace p140 := eq_true p140
                  replace q140 := eq_true q140
                  go_wp2
                  repeat (go_quiet (fail); try go_wp2)
                  go_ret
                  exact ⟨by first | rfl | (simp; done) | (simp [*]; done), by repeat (first | exact Drawn0.refl _ | apply Drawn0.step)⟩
                · rw [if_neg c7] at H
                  have c7b0 : decide (30 < (((rd_T37 l0 x4_1).f1).length : Int)) = false := decide_eq_false c7
                  have c7b1 : decide (30 < ((rd_T37 l0 x4_1).f1).length) = false := decide_eq_false (by omega)
                  clear c7
                  by_cases c8 : (((rd_T37 l0 x4_1).f2).length : Int) > 300
                  · rw [if_pos c8] at H
                    have c8b0 : decide (300 < (((rd_T37 l0 x4_1).f2).length : Int)) = true := decide_eq_true c8
                    have c8b1 : decide (300 < ((rd_T37 l0 x4_1).f2).length) = true := decide_eq_true (by omega)
                    clear c8
                    obtain rfl := Option.some.inj H
                    have p140 : 0 ≤ (x4_1 : Int) := of_decide_eq_true (by first | (with_reducible assumption) | assumption)
                    have q140 : x4_1 < (l0.length : Int) := of_decide_eq_true (by first | (with_reducible assumption) | assumption)
                    obtain ⟨ad140, A140_1, c140_1, A140_2, c140_2, A140_3, c140_3, e140, hx140_0, hx140_1, hx140_2, hx140_3, hl140_1, hi140_1, hl140_2, hi140_2, hl140_3, hi140_3⟩ := at_T37 HR0.out x4_1 p140 q140
                    cases e140
                    have HR140_1 := Aside0.mk hi140_1
                    have HC140_1 := Aside0.mk hl140_1
                    clear hi140_1 hl140_1
                    have HR140_2 := Aside0.mk hi140_2
                    have HC140_2 := Aside0.mk hl140_2
                    clear hi140_2 hl140_2
                    have HR140_3 := Aside0.mk hi140_3
                    have HC140_3 := Aside0.mk hl140_3
                    clear hi140_3 hl140_3
                    replace p140 := eq_true p140
                    replace q140 := eq_true q140
                    have p141 : 0 ≤ (x4_1 : Int) := of_decide_eq_true (by first | (with_reducible assumption) | assumption)
                    have q141 : x4_1 < (l0.length : Int) := of_decide_eq_true (by first | (with_reducible assumption) | assumption)
                    obtain ⟨ad141, A141_1, c141_1, A141_2, c141_2, A141_3, c141_3, e141, hx141_0, hx141_1, hx141_2, hx141_3, hl141_1, hi141_1, hl141_2, hi141_2, hl141_3, hi141_3⟩ := at_T37 HR0.out x4_1 p141 q141
                    obtain rfl : ad140 = ad141 := (by injection e141)
                    have HR141_1 := Aside0.mk hi141_1
                    have HC141_1 := Aside0.mk hl141_1
                    clear hi141_1 hl141_1
                    have HR141_2 := Aside0.mk hi141_2
                    have HC141_2 := Aside0.mk hl141_2
                    clear hi141_2 hl141_2
                    have HR141_3 := Aside0.mk hi141_3
                    have HC141_3 := Aside0.mk hl141_3
                    clear hi141_3 hl141_3
                    replace p141 := eq_true p141
                    replace q141 := eq_true q141
                    have ea_ := Option.some.inj (hx140_1.symm.trans hx141_1)
                    injection ea_ with ea_ en_ ec_
                    subst ea_
                    subst ec_
                    clear en_
                    have ea_ := Option.some.inj (hx140_2.symm.trans hx141_2)
                    injection ea_ with ea_ en_ ec_
                    subst ea_
                    subst ec_
                    clear en_
                    have ea_ := Option.some.inj (hx140_3.symm.trans hx141_3)
                    injection ea_ with ea_ en_ ec_
                    subst ea_
                    subst ec_
                    clear en_
                    go_wp2
                    repeat (go_quiet (fail); try go_wp2)
                    go_ret
                    exact ⟨by first | rfl | (simp; done) | (simp [*]; done), by repeat (first | exact Drawn0.refl _ | apply Drawn0.step)⟩
                  · rw [if_neg c8] at H
                    have c8b0 : decide (300 < (((rd_T37 l0 x4_1).f2).length : Int)) = false := decide_eq_false c8
                    have c8b1 : decide (300 < ((rd_T37 l0 x4_1).f2).length) = false := decide_eq_false (by omega)
                    clear c8
                    by_cases c9 : (((rd_T37 l0 x4_1).f3).length : Int) > 300
                    · rw [if_pos c9] at H
                      have c9b0 : decide (300 < (((rd_T37 l0 x4_1).f3).length : Int)) = true := decide_eq_true c9
                      have c9b1 : decide (300 < ((rd_T37 l0 x4_1).f3).length) = true := decide_eq_true (by omega)
                      clear c9
                      obtain rfl := Option.some.inj H
                      have p140 : 0 ≤ (x4_1 : Int) := of_decide_eq_true (by first | (with_reducible assumption) | assumption)
                      have q140 : x4_1 < (l0.length : Int) := of_decide_eq_true (by first | (with_reducible assumption) | assumption)
                      obtain ⟨ad140, A140_1, c140_1, A140_2, c140_2, A140_3, c140_3, e140, hx140_0, hx140_1, hx140_2, hx140_3, hl140_1, hi140_1, hl140_2, hi140_2, hl140_3, hi140_3⟩ := at_T37 HR0.out x4_1 p140 q140
                      cases e140
                      have HR140_1 := Aside0.mk hi140_1
                      have HC140_1 := Aside0.mk hl140_1
                      clear hi140_1 hl140_1
                      have HR140_2 := Aside0.mk hi140_2
                      have HC140_2 := Aside0.mk hl140_2
                      clear hi140_2 hl140_2
                      have HR140_3 := Aside0.mk hi140_3
                      have HC140_3 := Aside0.mk hl140_3
                      clear hi140_3 hl140_3
                      replace p140 := eq_true p140
                      replace q140 := eq_true q140
                      have p141 : 0 ≤ (x4_1 : Int) := of_decide_eq_true (by first | (with_reducible assumption) | assumption)
                      have q141 : x4_1 < (l0.length : Int) := of_decide_eq_true (by first | (with_reducible assumption) | assumption)
                      obtain ⟨ad141, A141_1, c141_1, A141_2, c141_2, A141_3, c141_3, e141, hx141_0, hx141_1, hx141_2, hx141_3, hl141_1, hi141_1, hl141_2, hi141_2, hl141_3, hi141_3⟩ := at_T37 HR0.out x4_1 p141 q141
                      obtain rfl : ad140 = ad141 := (by injection e141)
                      have HR141_1 := Aside0.mk hi141_1
                      have HC141_1 := Aside0.mk hl141_1
                      clear hi141_1 hl141_1
                      have HR141_2 := Aside0.mk hi141_2
                      have HC141_2 := Aside0.mk hl141_2
                      clear hi141_2 hl141_2
                      have HR141_3 := Aside0.mk hi141_3
                      have HC141_3 := Aside0.mk hl141_3
                      clear hi141_3 hl141_3
                      replace p141 := eq_true p141
                      replace q141 := eq_true q141
                      have ea_ := Option.some.inj (hx140_1.symm.trans hx141_1)
                      injection ea_ with ea_ en_ ec_
                      subst ea_
                      subst ec_
                      clear en_
                      have ea_ := Option.some.inj (hx140_2.symm.trans hx141_2)
                      injection ea_ with ea_ en_ ec_
                      subst ea_
                      subst ec_
                      clear en_
                      have ea_ := Option.some.inj (hx140_3.symm.trans hx141_3)
                      injection ea_ with ea_ en_ ec_
                      subst ea_
                      subst ec_
                      clear en_
                      have p142 : 0 ≤ (x4_1 : Int) := of_decide_eq_true (by first | (with_reducible assumption) | assumption)
                      have q142 : x4_1 < (l0.length : Int) := of_decide_eq_true (by first | (with_reducible assumption) | assumption)
                      obtain ⟨ad142, A142_1, c142_1, A142_2, c142_2, A142_3, c142_3, e142, hx142_0, hx142_1, hx142_2, hx142_3, hl142_1, hi142_1, hl142_2, hi142_2, hl142_3, hi142_3⟩ := at_T37 HR0.out x4_1 p142 q142
                      obtain rfl : ad140 = ad142 := (by injection e142)
                      have HR142_1 := Aside0.mk hi142_1
                      have HC142_1 := Aside0.mk hl142_1
                      clear hi142_1 hl142_1
                      have HR142_2 := Aside0.mk hi142_2
                      have HC142_2 := Aside0.mk hl142_2
                      clear hi142_2 hl142_2
                      have HR142_3 := Aside0.mk hi142_3
                      have HC142_3 := Aside0.mk hl142_3
                      clear hi142_3 hl142_3
                      replace p142 := eq_true p142
                      replace q142 := eq_true q142
                      have ea_ := Option.some.inj (hx140_1.symm.trans hx142_1)
                      injection ea_ with ea_ en_ ec_
                      subst ea_
                      subst ec_
                      clear en_
                      have ea_ := Option.some.inj (hx140_2.symm.trans hx142_2)
                      injection ea_ with ea_ en_ ec_
                      subst ea_
                      subst ec_
                      clear en_
                      have ea_ := Option.some.inj (hx140_3.symm.trans hx142_3)
                      injection ea_ with ea_ en_ ec_
                      subst ea_
                      subst ec_
                      clear en_
                      go_wp2
                      repeat (go_quiet (fail); try go_wp2)
                      go_ret
                      exact ⟨by first | rfl | (simp; done) | (simp [*]; done), by repeat (first | exact Drawn0.refl _ | apply Drawn0.step)⟩
                    · rw [if_neg c9] at H
                      have c9b0 : decide (300 < (((rd_T37 l0 x4_1).f3).length : Int)) = false := decide_eq_false c9
                      have c9b1 : decide (300 < ((rd_T37 l0 x4_1).f3).length) = false := decide_eq_false (by omega)
                      clear c9
                      have H' := Aside0.mk H
                      clear H
                      have p140 : 0 ≤ (x4_1 : Int) := of_decide_eq_true (by first | (with_reducible assumption) | assumption)
                      have q140 : x4_1 < (l0.length : Int) := of_decide_eq_true (by first | (with_reducible assumption) | assumption)
                      obtain ⟨ad140, A140_1, c140_1, A140_2, c140_2, A140_3, c140_3, e140, hx140_0, hx140_1, hx140_2, hx140_3, hl140_1, hi140_1, hl140_2, hi140_2, hl140_3, hi140_3⟩ := at_T37 HR0.out x4_1 p140 q140
                      cases e140
                      have HR140_1 := Aside0.mk hi140_1
                      have HC140_1 := Aside0.mk hl140_1
                      clear hi140_1 hl140_1
                      have HR140_2 := Aside0.mk hi140_2
                      have HC140_2 := Aside0.mk hl140_2
                      clear hi140_2 hl140_2
                      have HR140_3 := Aside0.mk hi140_3
                      have HC140_3 := Aside0.mk hl140_3
                      clear hi140_3 hl140_3
                      replace p140 := eq_true p140
                      replace q140 := eq_true q140
                      have p141 : 0 ≤ (x4_1 : Int) := of_decide_eq_true (by first | (with_reducible assumption) | assumption)
                      have q141 : x4_1 < (l0.length : Int) := of_decide_eq_true (by first | (with_reducible assumption) | assumption)
                      obtain ⟨ad141, A141_1, c141_1, A141_2, c141_2, A141_3, c141_3, e141, hx141_0, hx141_1, hx141_2, hx141_3, hl141_1, hi141_1, hl141_2, hi141_2, hl141_3, hi141_3⟩ := at_T37 HR0.out x4_1 p141 q141
                      obtain rfl : ad140 = ad141 := (by injection e141)
                      have HR141_1 := Aside0.mk hi141_1
                      have HC141_1 := Aside0.mk hl141_1
                      clear hi141_1 hl141_1
                      have HR141_2 := Aside0.mk hi141_2
                      have HC141_2 := Aside0.mk hl141_2
                      clear hi141_2 hl141_2
                      have HR141_3 := Aside0.mk hi141_3
                      have HC141_3 := Aside0.mk hl141_3
                      clear hi141_3 hl141_3
                      replace p141 := eq_true p141
                      replace q141 := eq_true q141
                      have ea_ := Option.some.inj (hx140_1.symm.trans hx141_1)
                      injection ea_ with ea_ en_ ec_
                      subst ea_
                      subst ec_
                      clear en_
                      have ea_ := Option.some.inj (hx140_2.symm.trans hx141_2)
                      injection ea_ with ea_ en_ ec_
                      subst ea_
                      subst ec_
                      clear en_
                      have ea_ := Option.some.inj (hx140_3.symm.trans hx141_3)
                      injection ea_ with ea_ en_ ec_
                      subst ea_
                      subst ec_
                      clear en_
                      have p142 : 0 ≤ (x4_1 : Int) := of_decide_eq_true (by first | (with_reducible assumption) | assumption)
                      have q142 : x4_1 < (l0.length : Int) := of_decide_eq_true (by first | (with_reducible assumption) | assumption)
                      obtain ⟨ad142, A142_1, c142_1, A142_2, c142_2, A142_3, c142_3, e142, hx142_0, hx142_1, hx142_2, hx142_3, hl142_1, hi142_1, hl142_2, hi142_2, hl142_3, hi142_3⟩ := at_T37 HR0.out x4_1 p142 q142
                      obtain rfl : ad140 = ad142 := (by injection e142)
                      have HR142_1 := Aside0.mk hi142_1
                      have HC142_1 := Aside0.mk hl142_1
                      clear hi142_1 hl142_1
                      have HR142_2 := Aside0.mk hi142_2
                      have HC142_2 := Aside0.mk hl142_2
                      clear hi142_2 hl142_2
                      have HR142_3 := Aside0.mk hi142_3
                      have HC142_3 := Aside0.mk hl142_3
                      clear hi142_3 hl142_3
                      replace p142 := eq_true p142
                      replace q142 := eq_true q142
                      have ea_ := Option.some.inj (hx140_1.symm.trans hx142_1)
                      injection ea_ with ea_ en_ ec_
                      subst ea_
                      subst ec_
                      clear en_
                      have ea_ := Option.some.inj (hx140_2.symm.trans hx142_2)
                      injection ea_ with ea_ en_ ec_
                      subst ea_
                      subst ec_
                      clear en_
                      have ea_ := Option.some.inj (hx140_3.symm.trans hx142_3)
                      injection ea_ with ea_ en_ ec_
                      subst ea_
                      subst ec_
                      clear en_
                      have p143 : 0 ≤ (x4_1 : Int) := of_decide_eq_true (by first | (with_reducible assumption) | assumption)
                      have q143 : x4_1 < (l0.length : Int) := of_decide_eq_true (by first | (with_reducible assumption) | assumption)
                      obtain ⟨ad143, A143_1, c143_1, A143_2, c143_2, A143_3, c143_3, e143, hx143_0, hx143_1, hx143_2, hx143_3, hl143_1, hi143_1, hl143_2, hi143_2, hl143_3, hi143_3⟩ := at_T37 HR0.out x4_1 p143 q143
                      obtain rfl : ad140 = ad143 := (by injection e143)
                      have HR143_1 := Aside0.mk hi143_1
                      have HC143_1 := Aside0.mk hl143_1
                      clear hi143_1 hl143_1
                      have HR143_2 := Aside0.mk hi143_2
                      have HC143_2 := Aside0.mk hl143_2
                      clear hi143_2 hl143_2
                      have HR143_3 := Aside0.mk hi143_3
                      have HC143_3 := Aside0.mk hl143_3
                      clear hi143_3 hl143_3
                      replace p143 := eq_true p143
                      replace q143 := eq_true q143
                      have ea_ := Option.some.inj (hx140_1.symm.trans hx143_1)
                      injection ea_ with ea_ en_ ec_
                      subst ea_
                      subst ec_
                      clear en_
                      have ea_ := Option.some.inj (hx140_2.symm.trans hx143_2)
                      injection ea_ with ea_ en_ ec_
                      subst ea_
                      subst ec_
                      clear en_
                      have ea_ := Option.some.inj (hx140_3.symm.trans hx143_3)
                      injection ea_ with ea_ en_ ec_
                      subst ea_
                      subst ec_
                      clear en_
                      have p144 : 0 ≤ (x4_1 : Int) := of_decide_eq_true (by first | (with_reducible assumption) | assumption)
                      have q144 : x4_1 < (l0.length : Int) := of_decide_eq_true (by first | (with_reducible assumption) | assumption)
                      obtain ⟨ad144, A144_1, c144_1, A144_2, c144_2, A144_3, c144_3, e144, hx144_0, hx144_1, hx144_2, hx144_3, hl144_1, hi144_1, hl144_2, hi144_2, hl144_3, hi144_3⟩ := at_T37 HR0.out x4_1 p144 q144
                      obtain rfl : ad140 = ad144 := (by injection e144)
                      have HR144_1 := Aside0.mk hi144_1
                      have HC144_1 := Aside0.mk hl144_1
                      clear hi144_1 hl144_1
                      have HR144_2 := Aside0.mk hi144_2
                      have HC144_2 := Aside0.mk hl144_2
                      clear hi144_2 hl144_2
                      have HR144_3 := Aside0.mk hi144_3
                      have HC144_3 := Aside0.mk hl144_3
                      clear hi144_3 hl144_3
                      replace p144 := eq_true p144
                      replace q144 := eq_true q144
                      have ea_ := Option.some.inj (hx140_1.symm.trans hx144_1)
                      injection ea_ with ea_ en_ ec_
                      subst ea_
                      subst ec_
                      clear en_
                      have ea_ := Option.some.inj (hx140_2.symm.trans hx144_2)
                      injection ea_ with ea_ en_ ec_
                      subst ea_
                      subst ec_
                      clear en_
                      have ea_ := Option.some.inj (hx140_3.symm.trans hx144_3)
                      injection ea_ with ea_ en_ ec_
                      subst ea_
                      subst ec_
                      clear en_
                      go_wp2
                      repeat (go_quiet (fail); try go_wp2)
                      go_roundg kj1
                      case measure => have := HK1.out; have := HJ1.out; omega
                      case rel => exact ⟨(wrap64 ((wrap64 (x3_1 + (((rd_T37 l0 x4_1).f2).length : Int))) + (((rd_T37 l0 x4_1).f3).length : Int))), (wrap64 (x4_1 + 1)), (by first | rfl | (simp; done) | (simp [*]; done)), (by first | rfl | (simp; done) | (simp [*]; done)), H', ⟨by have := HK1.out; have := HJ1.out; omega⟩, by repeat (first | exact Drawn0.refl _ | apply Drawn0.step)⟩
              · rw [if_neg c6] at H
                exact absurd H (by simp)
            · rw [if_neg c5] at H
              exact absurd H (by simp)
          · replace c4 := Bool.eq_false_iff.mpr c4
            subst c4
            rw [if_neg (show ¬ (false = true) by decide)] at H
            by_cases c10 : (l0.length : Int) ≤ 100
            · rw [if_pos c10] at H
              have c10b0 : decide ((l0.length : Int) ≤ 100) = true := decide_eq_true c10
              have c10b1 : decide (l0.length ≤ 100) = true := decide_eq_true (by omega)
              clear c10
              obtain rfl := Option.some.inj H
              go_wp2
              repeat (go_quiet (fail); try go_wp2)
              go_ret
              exact ⟨by first | rfl | (simp; done) | (simp [*]; done), by repeat (first | exact Drawn0.refl _ | apply Drawn0.step)⟩
            · rw [if_neg c10] at H
              have c10b0 : decide ((l0.length : Int) ≤ 100) = false := decide_eq_false c10
              have c10b1 : decide (l0.length ≤ 100) = false := decide_eq_false (by omega)
              clear c10
              obtain rfl := Option.some.inj H
              go_wp2
              repeat (go_quiet (fail); try go_wp2)
              go_ret
              exact ⟨by first | rfl | (simp; done) | (simp [*]; done), by repeat (first | exact Drawn0.refl _ | apply Drawn0.step)⟩

end Go.Proofs.YtfdeheodjkpkkaaGreatDoor.All
