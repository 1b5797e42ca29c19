-- Written for this claim by wip/tools/gprint.py out of the translation (it drives the kit's print). Lean checks it.
import Derived.Test.YtbbonbhammfpjaaDoorAll0
namespace Go.Proofs.YtbbonbhammfpjaaDoor.All
open Go.RowKit Go.Proofs.YtbbonbhammfpjaaDoorW.PrintWords Go.Proofs.YtbbonbhammfpjaaDoorW.PrintLast Go.Proofs.YtbbonbhammfpjaaDoorW.PrintMore Go.Proofs.YtbbonbhammfpjaaDoor.G
attribute [local go_sem] max2_int min2_int max_two min_two max_three min_three max_four min_four str_leq str_gtr str_geq   -- for this text's walks alone
set_option linter.unusedVariables false
set_option linter.unusedSimpArgs false

/-! ### deckleref12_pieces: function 21 -/
mutual
def deckleref12_pieces.l0 : Nat → ByteArray → Int → Option (Int)
  | 0, _, _ => none
  | k + 1, x0, x3 => if x3 < (x0.size : Int) then (if 0 ≤ x3 then (if (bt x0 x3) ≥ 48 then (if (bt x0 x3) ≤ 57 then (deckleref12_pieces.j1 k x0 x3 true) else (deckleref12_pieces.j1 k x0 x3 ((bt x0 x3) == 69))) else (deckleref12_pieces.j1 k x0 x3 ((bt x0 x3) == 69))) else (none)) else (some x3)
def deckleref12_pieces.j1 : Nat → ByteArray → Int → Bool → Option (Int)
  | 0, _, _, _ => none
  | k + 1, x0, x3, x23 => if x23 = true then (deckleref12_pieces.l0 k x0 (wrap64 (x3 + 1))) else (if (wrap64 ((x0.size : Int) - x3)) ≥ 2 then (if 0 ≤ x3 then (if x3 ≤ (wrap64 (x3 + 2)) then (if (wrap64 (x3 + 2)) ≤ (x0.size : Int) then (if (x0.extract (x3 : Int).toNat ((wrap64 (x3 + 2)) : Int).toNat).toList = ([194, 175] : List UInt8) then (deckleref12_pieces.l0 k x0 (wrap64 (x3 + 2))) else (some x3)) else (none)) else (none)) else (none)) else (some x3))
end
def deckleref12_pieces.f (k : Nat) (a0 : ByteArray) : Option (Int) := deckleref12_pieces.l0 k a0 0
theorem deckleref12_pieces.mono_l : ∀ k, (∀ y0 y1, LeO (deckleref12_pieces.l0 k y0 y1) (deckleref12_pieces.l0 (k + 1) y0 y1)) ∧ (∀ y0 y1 y2, LeO (deckleref12_pieces.j1 k y0 y1 y2) (deckleref12_pieces.j1 (k + 1) y0 y1 y2))
  | 0 => ⟨fun _ _ r h => by simp [deckleref12_pieces.l0] at h, fun _ _ _ r h => by simp [deckleref12_pieces.j1] at h⟩
  | k + 1 => by
    obtain ⟨ih0, ih1⟩ := deckleref12_pieces.mono_l k
    refine ⟨?_, ?_⟩
    · intro y0 y1
      unfold deckleref12_pieces.l0
      repeat' first
      | (with_reducible exact ih0 _ _)
      | (with_reducible exact ih1 _ _ _)
      | (with_reducible exact LeO.refl _)
      | (with_reducible exact LeO.none _)
      | (with_reducible refine LeO.ite ?_ ?_)
      | (with_reducible refine LeO.bind ?_ (fun _ => ?_))
      | exact ih0 _ _
      | exact ih1 _ _ _
      | exact LeO.none _
      | refine LeO.ite ?_ ?_
      | refine LeO.bind ?_ (fun _ => ?_)
    · intro y0 y1 y2
      unfold deckleref12_pieces.j1
      repeat' first
      | (with_reducible exact ih0 _ _)
      | (with_reducible exact ih1 _ _ _)
      | (with_reducible exact LeO.refl _)
      | (with_reducible exact LeO.none _)
      | (with_reducible refine LeO.ite ?_ ?_)
      | (with_reducible refine LeO.bind ?_ (fun _ => ?_))
      | exact ih0 _ _
      | exact ih1 _ _ _
      | exact LeO.none _
      | refine LeO.ite ?_ ?_
      | refine LeO.bind ?_ (fun _ => ?_)
theorem deckleref12_pieces.mono : ∀ a0 k, LeO (deckleref12_pieces.f k a0) (deckleref12_pieces.f (k + 1) a0) := by
  intro a0 k
  obtain ⟨ih0, ih1⟩ := deckleref12_pieces.mono_l k
  unfold deckleref12_pieces.f
  repeat' first
      | (with_reducible exact ih0 _ _)
      | (with_reducible exact ih1 _ _ _)
      | (with_reducible exact LeO.refl _)
      | (with_reducible exact LeO.none _)
      | (with_reducible refine LeO.ite ?_ ?_)
      | (with_reducible refine LeO.bind ?_ (fun _ => ?_))
      | exact ih0 _ _
      | exact ih1 _ _ _
      | exact LeO.none _
      | refine LeO.ite ?_ ?_
      | refine LeO.bind ?_ (fun _ => ?_)
set_option maxHeartbeats 8000000 in
set_option maxRecDepth 100000 in
theorem deckleref12_pieces.calls (k : Nat) (a0 : ByteArray) (r : Int) (w : World) (hT : Tabs w) (h : deckleref12_pieces.f k a0 = some r) :
    Calls Tryd.prog 21 #[.string a0] w fun e w' => e = .returned (.int .i64 r) ∧ Drawn0 w w' := by
  have H : (deckleref12_pieces.l0 k a0 0) = some r := h
  clear h
  have H' := Aside0.mk H
  clear H
  go_enter Tryd.func21, Tryd.ntmps21
  go_wp2
  go_loopg [3] k (fun kq v3 w' => ∃ (x3_1 : Int), v3 = .int .i64 x3_1 ∧ Aside0 (deckleref12_pieces.l0 kq a0 x3_1 = some r) ∧ Aside0 (kq ≤ k) ∧ Drawn0 w w')
  case atStart => exact ⟨(0), (by first | rfl | (simp; done) | (simp [*]; done)), H', ⟨Nat.le_refl _⟩, by repeat (first | exact Drawn0.refl _ | apply Drawn0.step)⟩
  case round =>
    clear H'
    obtain ⟨x3_1, rfl, HA, HK1, ⟨m1, rfl⟩⟩ := hrel
    cases gk with
    | zero => exact absurd HA.out (by simp [deckleref12_pieces.l0])
    | succ k1 =>
      have H := HA.out
      clear HA
      simp only [deckleref12_pieces.l0] at H
      by_cases c2 : x3_1 < (a0.size : Int)
      · rw [if_pos c2] at H
        have c2b0 : decide (x3_1 < (a0.size : Int)) = true := decide_eq_true c2
        clear c2
        have HC3 := Aside0.mk H
        clear H
        go_upto_region 3 with (fail)
        go_cut [23] (fun v23 wc => ∃ (kq : Nat) (x23_2 : Bool), v23 = .bool x23_2 ∧ Aside0 (deckleref12_pieces.j1 kq a0 x3_1 x23_2 = some r) ∧ Aside0 (kq ≤ k1) ∧ Drawn0 w wc)
        case first =>
          have H := HC3.out
          clear HC3
          by_cases c4 : 0 ≤ x3_1
          · rw [if_pos c4] at H
            have c4b0 : decide (0 ≤ x3_1) = true := decide_eq_true c4
            clear c4
            (first | rw [c4b0] | (simp only [i64_w, i32_w]; rw [c4b0]) | skip)
            by_cases c6 : (bt a0 x3_1) ≥ 48
            · rw [if_pos c6] at H
              have c6b0 : decide (48 ≤ (bt a0 x3_1)) = true := decide_eq_true c6
              clear c6
              by_cases c8 : (bt a0 x3_1) ≤ 57
              · rw [if_pos c8] at H
                have c8b0 : decide ((bt a0 x3_1) ≤ 57) = true := decide_eq_true c8
                clear c8
                have H' := Aside0.mk H
                clear H
                have p5 : 0 ≤ (x3_1 : Int) := of_decide_eq_true (by first | (with_reducible assumption) | assumption)
                have q5 : x3_1 < (a0.size : Int) := of_decide_eq_true (by first | (with_reducible assumption) | assumption)
                have hx5 := bt_at a0 x3_1
                replace p5 := eq_true p5
                replace q5 := eq_true q5
                have p7 : 0 ≤ (x3_1 : Int) := of_decide_eq_true (by first | (with_reducible assumption) | assumption)
                have q7 : x3_1 < (a0.size : Int) := of_decide_eq_true (by first | (with_reducible assumption) | assumption)
                have hx7 := bt_at a0 x3_1
                replace p7 := eq_true p7
                replace q7 := eq_true q7
                go_wp2
                go_meet
                case rel => exact ⟨_, (true), (by first | rfl | (simp; done) | (simp [*]; done)), H', ⟨by have := HK1.out; first | omega | exact Nat.le_refl _⟩, by repeat (first | exact Drawn0.refl _ | apply Drawn0.step)⟩
              · rw [if_neg c8] at H
                have c8b0 : decide ((bt a0 x3_1) ≤ 57) = false := decide_eq_false c8
                clear c8
                have H' := Aside0.mk H
                clear H
                have p5 : 0 ≤ (x3_1 : Int) := of_decide_eq_true (by first | (with_reducible assumption) | assumption)
                have q5 : x3_1 < (a0.size : Int) := of_decide_eq_true (by first | (with_reducible assumption) | assumption)
                have hx5 := bt_at a0 x3_1
                replace p5 := eq_true p5
                replace q5 := eq_true q5
                have p7 : 0 ≤ (x3_1 : Int) := of_decide_eq_true (by first | (with_reducible assumption) | assumption)
                have q7 : x3_1 < (a0.size : Int) := of_decide_eq_true (by first | (with_reducible assumption) | assumption)
                have hx7 := bt_at a0 x3_1
                replace p7 := eq_true p7
                replace q7 := eq_true q7
                have p9 : 0 ≤ (x3_1 : Int) := of_decide_eq_true (by first | (with_reducible assumption) | assumption)
                have q9 : x3_1 < (a0.size : Int) := of_decide_eq_true (by first | (with_reducible assumption) | assumption)
                have hx9 := bt_at a0 x3_1
                replace p9 := eq_true p9
                replace q9 := eq_true q9
                go_wp2
                go_meet
                case rel => exact ⟨_, (((bt a0 x3_1) == 69)), (by first | rfl | (simp; done) | (simp [*]; done)), H', ⟨by have := HK1.out; first | omega | exact Nat.le_refl _⟩, by repeat (first | exact Drawn0.refl _ | apply Drawn0.step)⟩
            · rw [if_neg c6] at H
              have c6b0 : decide (48 ≤ (bt a0 x3_1)) = false := decide_eq_false c6
              clear c6
              have H' := Aside0.mk H
              clear H
              have p5 : 0 ≤ (x3_1 : Int) := of_decide_eq_true (by first | (with_reducible assumption) | assumption)
              have q5 : x3_1 < (a0.size : Int) := of_decide_eq_true (by first | (with_reducible assumption) | assumption)
              have hx5 := bt_at a0 x3_1
              replace p5 := eq_true p5
              replace q5 := eq_true q5
              have p10 : 0 ≤ (x3_1 : Int) := of_decide_eq_true (by first | (with_reducible assumption) | assumption)
              have q10 : x3_1 < (a0.size : Int) := of_decide_eq_true (by first | (with_reducible assumption) | assumption)
              have hx10 := bt_at a0 x3_1
              replace p10 := eq_true p10
              replace q10 := eq_true q10
              go_wp2
              go_meet
              case rel => exact ⟨_, (((bt a0 x3_1) == 69)), (by first | rfl | (simp; done) | (simp [*]; done)), H', ⟨by have := HK1.out; first | omega | exact Nat.le_refl _⟩, by repeat (first | exact Drawn0.refl _ | apply Drawn0.step)⟩
          · rw [if_neg c4] at H
            exact absurd H (by simp)
        case rest =>
          clear HC3
          try clear p1
          try clear q1
          try clear hx1
          try clear c2
          try clear c2b0
          try clear p2
          try clear c4
          try clear c4b0
          try clear p5
          try clear q5
          try clear hx5
          try clear c6
          try clear c6b0
          try clear p7
          try clear q7
          try clear hx7
          try clear c8
          try clear c8b0
          try clear p9
          try clear q9
          try clear hx9
          try clear p10
          try clear q10
          try clear hx10
          try clear p10
          try clear p5
          try clear p7
          try clear p9
          try clear q10
          try clear q5
          try clear q7
          try clear q9
          obtain ⟨kq, x23_2, rfl, HA, HJ2, ⟨mc2, rfl⟩⟩ := hcut
          cases kq with
          | zero => exact absurd HA.out (by simp [deckleref12_pieces.j1])
          | succ kj2 =>
            have H := HA.out
            clear HA
            simp only [deckleref12_pieces.j1] at H
            by_cases c11 : x23_2 = true
            · subst c11
              rw [if_pos rfl] at H
              have H' := Aside0.mk H
              clear H
              go_wp2
              go_roundg kj2
              case measure => have := HK1.out; have := HJ2.out; omega
              case rel => exact ⟨(wrap64 (x3_1 + 1)), (by first | rfl | (simp; done) | (simp [*]; done)), H', ⟨by have := HK1.out; have := HJ2.out; omega⟩, by repeat (first | exact Drawn0.refl _ | apply Drawn0.step)⟩
            · replace c11 := Bool.eq_false_iff.mpr c11
              subst c11
              rw [if_neg (show ¬ (false = true) by decide)] at H
              by_cases c12 : (wrap64 ((a0.size : Int) - x3_1)) ≥ 2
              · rw [if_pos c12] at H
                have c12b0 : decide (2 ≤ (wrap64 ((a0.size : Int) - x3_1))) = true := decide_eq_true c12
                clear c12
                by_cases c13 : 0 ≤ x3_1
                · rw [if_pos c13] at H
                  have c13b0 := eq_true c13
                  have c13b1 : decide (0 ≤ x3_1) = true := decide_eq_true c13
                  clear c13
                  by_cases c14 : x3_1 ≤ (wrap64 (x3_1 + 2))
                  · rw [if_pos c14] at H
                    have c14b0 := eq_true c14
                    have c14b1 : decide (x3_1 ≤ (wrap64 (x3_1 + 2))) = true := decide_eq_true c14
                    by_cases c15 : (wrap64 (x3_1 + 2)) ≤ (a0.size : Int)
                    · rw [if_pos c15] at H
                      have c15b0 := eq_true c15
                      have c15b1 : decide ((wrap64 (x3_1 + 2)) ≤ (a0.size : Int)) = true := decide_eq_true c15
                      by_cases c16 : (a0.extract (x3_1 : Int).toNat ((wrap64 (x3_1 + 2)) : Int).toNat).toList = ([194, 175] : List UInt8)
                      · rw [if_pos c16] at H
                        have c16b0 : ((a0.extract (x3_1 : Int).toNat ((wrap64 (x3_1 + 2)) : Int).toNat).toList == ([194, 175] : List UInt8)) = true := beq_iff_eq.mpr c16
                        have c16b1 : ((a0.extract (x3_1 : Int).toNat ((wrap64 (x3_1 + 2)) : Int).toNat).toList != ([194, 175] : List UInt8)) = false := bne_eq_false_iff_eq.mpr c16
                        clear c16
                        have H' := Aside0.mk H
                        clear H
                        go_wp2
                        go_roundg kj2
                        case measure => have := HK1.out; have := HJ2.out; omega
                        case rel => exact ⟨(wrap64 (x3_1 + 2)), (by first | rfl | (simp; done) | (simp [*]; done)), H', ⟨by have := HK1.out; have := HJ2.out; omega⟩, by repeat (first | exact Drawn0.refl _ | apply Drawn0.step)⟩
                      · rw [if_neg c16] at H
                        have c16b0 : ((a0.extract (x3_1 : Int).toNat ((wrap64 (x3_1 + 2)) : Int).toNat).toList == ([194, 175] : List UInt8)) = false := beq_eq_false_iff_ne.mpr c16
                        have c16b1 : ((a0.extract (x3_1 : Int).toNat ((wrap64 (x3_1 + 2)) : Int).toNat).toList != ([194, 175] : List UInt8)) = true := bne_iff_ne.mpr c16
                        obtain rfl := Option.some.inj H
                        go_wp2
                        go_ret
                        exact ⟨by first | rfl | (simp; done) | (simp [*]; done), by repeat (first | exact Drawn0.refl _ | apply Drawn0.step)⟩
                    · rw [if_neg c15] at H
                      exact absurd H (by simp)
                  · rw [if_neg c14] at H
                    exact absurd H (by simp)
                · rw [if_neg c13] at H
                  exact absurd H (by simp)
              · rw [if_neg c12] at H
                have c12b0 : decide (2 ≤ (wrap64 ((a0.size : Int) - x3_1))) = false := decide_eq_false c12
                clear c12
                obtain rfl := Option.some.inj H
                go_wp2
                go_ret
                exact ⟨by first | rfl | (simp; done) | (simp [*]; done), by repeat (first | exact Drawn0.refl _ | apply Drawn0.step)⟩
      · rw [if_neg c2] at H
        have c2b0 : decide (x3_1 < (a0.size : Int)) = false := decide_eq_false c2
        clear c2
        obtain rfl := Option.some.inj H
        go_wp2
        go_ret
        exact ⟨by first | rfl | (simp; done) | (simp [*]; done), by repeat (first | exact Drawn0.refl _ | apply Drawn0.step)⟩

end Go.Proofs.YtbbonbhammfpjaaDoor.All
