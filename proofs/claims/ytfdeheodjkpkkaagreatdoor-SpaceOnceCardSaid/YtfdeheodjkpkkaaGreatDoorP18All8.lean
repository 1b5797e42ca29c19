/- A text of this claim, cut to what is used. -/
import Derived.Test.YtfdeheodjkpkkaaGreatDoorP18All0
import Derived.Test.YtfdeheodjkpkkaaGreatDoorP18All7
set_option linter.unusedVariables false
set_option linter.unusedSimpArgs false
set_option linter.unusedSectionVars false
-- Written for this claim by wip/tools/gprint.py out of the translation (it drives the kit's print). Lean checks it.
namespace Go.Proofs.YtfdeheodjkpkkaaGreatDoor.All
open Go.RowKit Go.Proofs.YtfdeheodjkpkkaaGreatDoorW.PrintWords Go.Proofs.YtfdeheodjkpkkaaGreatDoorW.PrintLast Go.Proofs.YtfdeheodjkpkkaaGreatDoorW.PrintMore Go.Proofs.YtfdeheodjkpkkaaGreatDoor.G
attribute [local go_sem] max2_int min2_int max_two min_two max_three min_three max_four min_four str_leq str_gtr str_geq   -- for this text's walks alone
set_option linter.unusedVariables false
set_option linter.unusedSimpArgs false

/-! ### decklelaw16_Few: function 45 -/
mutual
def decklelaw16_Few.l0 : Nat → List ByteArray → Int → Int → Option (Bool)
  | 0, _, _, _ => none
  | k + 1, x0, x3, x4 => if x4 < (x0.length : Int) then (decklelaw16_Few.j1 k x0 x3 x4 (decide (x4 < 100))) else (decklelaw16_Few.j1 k x0 x3 x4 false)
def decklelaw16_Few.j1 : Nat → List ByteArray → Int → Int → Bool → Option (Bool)
  | 0, _, _, _, _ => none
  | k + 1, x0, x3, x4, x12 => if x12 = true then (if 0 ≤ x4 then (if x4 < (x0.length : Int) then (if ((rdOf ByteArray.empty x0 x4).size : Int) > 200 then (some false) else (decklelaw16_Few.l0 k x0 (wrap64 (x3 + ((rdOf ByteArray.empty x0 x4).size : Int))) (wrap64 (x4 + 1)))) else (none)) else (none)) else (if (x0.length : Int) ≤ 50 then (some (decide (x3 ≤ 2000))) else (some false))
end
def decklelaw16_Few.f (k : Nat) (l0 : List ByteArray) : Option (Bool) := decklelaw16_Few.l0 k l0 0 0
theorem decklelaw16_Few.mono_l : ∀ k, (∀ y0 y1 y2, LeO (decklelaw16_Few.l0 k y0 y1 y2) (decklelaw16_Few.l0 (k + 1) y0 y1 y2)) ∧ (∀ y0 y1 y2 y3, LeO (decklelaw16_Few.j1 k y0 y1 y2 y3) (decklelaw16_Few.j1 (k + 1) y0 y1 y2 y3))
  | 0 => ⟨fun _ _ _ r h => by simp [decklelaw16_Few.l0] at h, fun _ _ _ _ r h => by simp [decklelaw16_Few.j1] at h⟩
  | k + 1 => by
    obtain ⟨ih0, ih1⟩ := decklelaw16_Few.mono_l k
    refine ⟨?_, ?_⟩
    · intro y0 y1 y2
      unfold decklelaw16_Few.l0
      repeat' first
      | (with_reducible exact ih0 _ _ _)
      | (with_reducible exact ih1 _ _ _ _)
      | (with_reducible exact LeO.refl _)
      | (with_reducible exact LeO.none _)
      | (with_reducible refine LeO.ite ?_ ?_)
      | (with_reducible refine LeO.bind ?_ (fun _ => ?_))
      | exact ih0 _ _ _
      | exact ih1 _ _ _ _
      | exact LeO.none _
      | refine LeO.ite ?_ ?_
      | refine LeO.bind ?_ (fun _ => ?_)
    · intro y0 y1 y2 y3
      unfold decklelaw16_Few.j1
      repeat' first
      | (with_reducible exact ih0 _ _ _)
      | (with_reducible exact ih1 _ _ _ _)
      | (with_reducible exact LeO.refl _)
      | (with_reducible exact LeO.none _)
      | (with_reducible refine LeO.ite ?_ ?_)
      | (with_reducible refine LeO.bind ?_ (fun _ => ?_))
      | exact ih0 _ _ _
      | exact ih1 _ _ _ _
      | exact LeO.none _
      | refine LeO.ite ?_ ?_
      | refine LeO.bind ?_ (fun _ => ?_)
theorem decklelaw16_Few.mono : ∀ a0 k, LeO (decklelaw16_Few.f k a0) (decklelaw16_Few.f (k + 1) a0) := by
  intro a0 k
  obtain ⟨ih0, ih1⟩ := decklelaw16_Few.mono_l k
  unfold decklelaw16_Few.f
  repeat' first
      | (with_reducible exact ih0 _ _ _)
      | (with_reducible exact ih1 _ _ _ _)
      | (with_reducible exact LeO.refl _)
      | (with_reducible exact LeO.none _)
      | (with_reducible refine LeO.ite ?_ ?_)
      | (with_reducible refine LeO.bind ?_ (fun _ => ?_))
      | exact ih0 _ _ _
      | exact ih1 _ _ _ _
      | exact LeO.none _
      | refine LeO.ite ?_ ?_
      | refine LeO.bind ?_ (fun _ => ?_)
set_option maxHeartbeats 8000000 in
set_option maxRecDepth 100000 in
theorem decklelaw16_Few.calls (k : Nat) (A0 : Option Addr) (c0 : Nat) (l0 : List ByteArray) (r : Bool) (w : World) (hT : Tabs w) (hr0 : Kd.C Kd.string w A0 l0.length l0) (hc0 : l0.length ≤ c0) (h : decklelaw16_Few.f k l0 = some r) :
    Calls Tryz.prog 45 #[.slice A0 l0.length c0] w fun e w' => e = .returned (.bool r) ∧ Drawn0 w w' := by
  have HR0 := Aside0.mk hr0
  have HC0 := Aside0.mk hc0
  clear hr0 hc0
  have H : (decklelaw16_Few.l0 k l0 0 0) = some r := h
  clear h
  have H' := Aside0.mk H
  clear H
  go_enter Tryz.func45, Tryz.ntmps45
  go_wp2
  go_loopg [3, 4] k (fun kq v3 v4 w' => ∃ (x3_1 : Int) (x4_1 : Int), v3 = .int .i64 x3_1 ∧ v4 = .int .i64 x4_1 ∧ Aside0 (decklelaw16_Few.l0 kq l0 x3_1 x4_1 = some r) ∧ Aside0 (kq ≤ k) ∧ Drawn0 w w')
  case atStart => exact ⟨(0), (0), (by first | rfl | (simp; done) | (simp [*]; done)), (by first | rfl | (simp; done) | (simp [*]; done)), H', ⟨Nat.le_refl _⟩, by repeat (first | exact Drawn0.refl _ | apply Drawn0.step)⟩
  case round =>
    clear H'
    obtain ⟨x3_1, x4_1, rfl, rfl, HA, HK1, ⟨m1, rfl⟩⟩ := hrel
    cases gk with
    | zero => exact absurd HA.out (by simp [decklelaw16_Few.l0])
    | succ k1 =>
      have H := HA.out
      clear HA
      simp only [decklelaw16_Few.l0] at H
      have HC2 := Aside0.mk H
      clear H
      go_upto_region 3 with (fail)
      go_cut [12] (fun v12 wc => ∃ (kq : Nat) (x12_1 : Bool), v12 = .bool x12_1 ∧ Aside0 (decklelaw16_Few.j1 kq l0 x3_1 x4_1 x12_1 = some r) ∧ Aside0 (kq ≤ k1) ∧ Drawn0 w wc)
      case first =>
        have H := HC2.out
        clear HC2
        by_cases c3 : x4_1 < (l0.length : Int)
        · rw [if_pos c3] at H
          have c3b0 : decide (x4_1 < (l0.length : Int)) = true := decide_eq_true c3
          clear c3
          (first | rw [c3b0] | (simp only [i64_w, i32_w]; rw [c3b0]) | skip)
          have H' := Aside0.mk H
          clear H
          go_wp2
          go_meet
          case rel => exact ⟨_, (decide (x4_1 < 100)), (by first | rfl | (simp; done) | (simp [*]; done)), H', ⟨by have := HK1.out; first | omega | exact Nat.le_refl _⟩, by repeat (first | exact Drawn0.refl _ | apply Drawn0.step)⟩
        · rw [if_neg c3] at H
          have c3b0 : decide (x4_1 < (l0.length : Int)) = false := decide_eq_false c3
          clear c3
          (first | rw [c3b0] | (simp only [i64_w, i32_w]; rw [c3b0]) | skip)
          have H' := Aside0.mk H
          clear H
          go_wp2
          go_meet
          case rel => exact ⟨_, (false), (by first | rfl | (simp; done) | (simp [*]; done)), H', ⟨by have := HK1.out; first | omega | exact Nat.le_refl _⟩, by repeat (first | exact Drawn0.refl _ | apply Drawn0.step)⟩
      case rest =>
        clear HC2
        try clear p2
        try clear c3
        try clear c3b0
        obtain ⟨kq, x12_1, rfl, HA, HJ1, ⟨mc1, rfl⟩⟩ := hcut
        cases kq with
        | zero => exact absurd HA.out (by simp [decklelaw16_Few.j1])
        | succ kj1 =>
          have H := HA.out
          clear HA
          simp only [decklelaw16_Few.j1] at H
          by_cases c4 : x12_1 = true
          · subst c4
            rw [if_pos rfl] at H
            by_cases c5 : 0 ≤ x4_1
            · rw [if_pos c5] at H
              have c5b0 : decide (0 ≤ x4_1) = true := decide_eq_true c5
              clear c5
              by_cases c6 : x4_1 < (l0.length : Int)
              · rw [if_pos c6] at H
                have c6b0 : decide (x4_1 < (l0.length : Int)) = true := decide_eq_true c6
                clear c6
                by_cases c7 : ((rdOf ByteArray.empty l0 x4_1).size : Int) > 200
                · rw [if_pos c7] at H
                  have c7b0 : decide (200 < ((rdOf ByteArray.empty l0 x4_1).size : Int)) = true := decide_eq_true c7
                  have c7b1 : decide (200 < (rdOf ByteArray.empty l0 x4_1).size) = true := decide_eq_true (by omega)
                  clear c7
                  obtain rfl := Option.some.inj H
                  have p145 : 0 ≤ (x4_1 : Int) := of_decide_eq_true (by first | (with_reducible assumption) | assumption)
                  have q145 : x4_1 < (l0.length : Int) := of_decide_eq_true (by first | (with_reducible assumption) | assumption)
                  obtain ⟨ad145, e145, hx145_0⟩ := Kd.at_string HR0.out x4_1 p145 q145
                  cases e145
                  replace p145 := eq_true p145
                  replace q145 := eq_true q145
                  go_wp2
                  go_ret
                  exact ⟨by first | rfl | (simp; done) | (simp [*]; done), by repeat (first | exact Drawn0.refl _ | apply Drawn0.step)⟩
                · rw [if_neg c7] at H
                  have c7b0 : decide (200 < ((rdOf ByteArray.empty l0 x4_1).size : Int)) = false := decide_eq_false c7
                  have c7b1 : decide (200 < (rdOf ByteArray.empty l0 x4_1).size) = false := decide_eq_false (by omega)
                  clear c7
                  have H' := Aside0.mk H
                  clear H
                  have p145 : 0 ≤ (x4_1 : Int) := of_decide_eq_true (by first | (with_reducible assumption) | assumption)
                  have q145 : x4_1 < (l0.length : Int) := of_decide_eq_true (by first | (with_reducible assumption) | assumption)
                  obtain ⟨ad145, e145, hx145_0⟩ := Kd.at_string HR0.out x4_1 p145 q145
                  cases e145
                  replace p145 := eq_true p145
                  replace q145 := eq_true q145
                  have p146 : 0 ≤ (x4_1 : Int) := of_decide_eq_true (by first | (with_reducible assumption) | assumption)
                  have q146 : x4_1 < (l0.length : Int) := of_decide_eq_true (by first | (with_reducible assumption) | assumption)
                  obtain ⟨ad146, e146, hx146_0⟩ := Kd.at_string HR0.out x4_1 p146 q146
                  obtain rfl : ad145 = ad146 := (by injection e146)
                  replace p146 := eq_true p146
                  replace q146 := eq_true q146
                  go_wp2
                  go_roundg kj1
                  case measure => have := HK1.out; have := HJ1.out; omega
                  case rel => exact ⟨(wrap64 (x3_1 + ((rdOf ByteArray.empty l0 x4_1).size : Int))), (wrap64 (x4_1 + 1)), (by first | rfl | (simp; done) | (simp [*]; done)), (by first | rfl | (simp; done) | (simp [*]; done)), H', ⟨by have := HK1.out; have := HJ1.out; omega⟩, by repeat (first | exact Drawn0.refl _ | apply Drawn0.step)⟩
              · rw [if_neg c6] at H
                exact absurd H (by simp)
            · rw [if_neg c5] at H
              exact absurd H (by simp)
          · replace c4 := Bool.eq_false_iff.mpr c4
            subst c4
            rw [if_neg (show ¬ (false = true) by decide)] at H
            by_cases c8 : (l0.length : Int) ≤ 50
            · rw [if_pos c8] at H
              have c8b0 : decide ((l0.length : Int) ≤ 50) = true := decide_eq_true c8
              have c8b1 : decide (l0.length ≤ 50) = true := decide_eq_true (by omega)
              clear c8
              obtain rfl := Option.some.inj H
              go_wp2
              go_ret
              exact ⟨by first | rfl | (simp; done) | (simp [*]; done), by repeat (first | exact Drawn0.refl _ | apply Drawn0.step)⟩
            · rw [if_neg c8] at H
              have c8b0 : decide ((l0.length : Int) ≤ 50) = false := decide_eq_false c8
              have c8b1 : decide (l0.length ≤ 50) = false := decide_eq_false (by omega)
              clear c8
              obtain rfl := Option.some.inj H
              go_wp2
              go_ret
              exact ⟨by first | rfl | (simp; done) | (simp [*]; done), by repeat (first | exact Drawn0.refl _ | apply Drawn0.step)⟩

/-! ### decklelaw18_Few: function 15 -/
mutual
def decklelaw18_Few.l0 : Nat → List (S29) → Int → Option (Bool)
  | 0, _, _ => none
  | k + 1, x0, x3 => if x3 < (x0.length : Int) then (decklelaw18_Few.j1 k x0 x3 (decide (x3 < 30))) else (decklelaw18_Few.j1 k x0 x3 false)
def decklelaw18_Few.j1 : Nat → List (S29) → Int → Bool → Option (Bool)
  | 0, _, _, _ => none
  | k + 1, x0, x3, x13 => if x13 = true then (if 0 ≤ x3 then (if x3 < (x0.length : Int) then ((decklelaw10_Few.f k ((rd_T29 x0 x3).f2)).bind fun t148 => ((decklelaw16_Few.f k ((rd_T29 x0 x3).f3)).bind fun t150 => (if t148 = true then (if t150 = true then (if (((rd_T29 x0 x3).f1).size : Int) > 100 then (some false) else (decklelaw18_Few.l0 k x0 (wrap64 (x3 + 1)))) else (some false)) else (some false)))) else (none)) else (none)) else (some (decide ((x0.length : Int) ≤ 20)))
end
def decklelaw18_Few.f (k : Nat) (l0 : List (S29)) : Option (Bool) := decklelaw18_Few.l0 k l0 0
theorem decklelaw18_Few.mono_l : ∀ k, (∀ y0 y1, LeO (decklelaw18_Few.l0 k y0 y1) (decklelaw18_Few.l0 (k + 1) y0 y1)) ∧ (∀ y0 y1 y2, LeO (decklelaw18_Few.j1 k y0 y1 y2) (decklelaw18_Few.j1 (k + 1) y0 y1 y2))
  | 0 => ⟨fun _ _ r h => by simp [decklelaw18_Few.l0] at h, fun _ _ _ r h => by simp [decklelaw18_Few.j1] at h⟩
  | k + 1 => by
    obtain ⟨ih0, ih1⟩ := decklelaw18_Few.mono_l k
    refine ⟨?_, ?_⟩
    · intro y0 y1
      unfold decklelaw18_Few.l0
      repeat' first
      | (with_reducible exact ih0 _ _)
      | (with_reducible exact ih1 _ _ _)
      | (with_reducible exact decklelaw10_Few.mono _ _)
      | (with_reducible exact decklelaw16_Few.mono _ _)
      | (with_reducible exact LeO.refl _)
      | (with_reducible exact LeO.none _)
      | (with_reducible refine LeO.ite ?_ ?_)
      | (with_reducible refine LeO.bind ?_ (fun _ => ?_))
      | exact ih0 _ _
      | exact ih1 _ _ _
      | exact decklelaw10_Few.mono _ _
      | exact decklelaw16_Few.mono _ _
      | exact LeO.none _
      | refine LeO.ite ?_ ?_
      | refine LeO.bind ?_ (fun _ => ?_)
    · intro y0 y1 y2
      unfold decklelaw18_Few.j1
      repeat' first
      | (with_reducible exact ih0 _ _)
      | (with_reducible exact ih1 _ _ _)
      | (with_reducible exact decklelaw10_Few.mono _ _)
      | (with_reducible exact decklelaw16_Few.mono _ _)
      | (with_reducible exact LeO.refl _)
      | (with_reducible exact LeO.none _)
      | (with_reducible refine LeO.ite ?_ ?_)
      | (with_reducible refine LeO.bind ?_ (fun _ => ?_))
      | exact ih0 _ _
      | exact ih1 _ _ _
      | exact decklelaw10_Few.mono _ _
      | exact decklelaw16_Few.mono _ _
      | exact LeO.none _
      | refine LeO.ite ?_ ?_
      | refine LeO.bind ?_ (fun _ => ?_)
theorem decklelaw18_Few.mono : ∀ a0 k, LeO (decklelaw18_Few.f k a0) (decklelaw18_Few.f (k + 1) a0) := by
  intro a0 k
  obtain ⟨ih0, ih1⟩ := decklelaw18_Few.mono_l k
  unfold decklelaw18_Few.f
  repeat' first
      | (with_reducible exact ih0 _ _)
      | (with_reducible exact ih1 _ _ _)
      | (with_reducible exact decklelaw10_Few.mono _ _)
      | (with_reducible exact decklelaw16_Few.mono _ _)
      | (with_reducible exact LeO.refl _)
      | (with_reducible exact LeO.none _)
      | (with_reducible refine LeO.ite ?_ ?_)
      | (with_reducible refine LeO.bind ?_ (fun _ => ?_))
      | exact ih0 _ _
      | exact ih1 _ _ _
      | exact decklelaw10_Few.mono _ _
      | exact decklelaw16_Few.mono _ _
      | exact LeO.none _
      | refine LeO.ite ?_ ?_
      | refine LeO.bind ?_ (fun _ => ?_)
set_option maxHeartbeats 8000000 in
set_option maxRecDepth 100000 in
theorem decklelaw18_Few.calls (k : Nat) (A0 : Option Addr) (c0 : Nat) (l0 : List (S29)) (r : Bool) (w : World) (hT : Tabs w) (hr0 : Kd.C k29 w A0 l0.length l0) (hc0 : l0.length ≤ c0) (h : decklelaw18_Few.f k l0 = some r) :
    Calls Tryz.prog 15 #[.slice A0 l0.length c0] w fun e w' => e = .returned (.bool r) ∧ Drawn0 w w' := by
  have HR0 := Aside0.mk hr0
  have HC0 := Aside0.mk hc0
  clear hr0 hc0
  have H : (decklelaw18_Few.l0 k l0 0) = some r := h
  clear h
  have H' := Aside0.mk H
  clear H
  go_enter Tryz.func15, Tryz.ntmps15
  go_wp2
  go_loopg [3] k (fun kq v3 w' => ∃ (x3_1 : Int), v3 = .int .i64 x3_1 ∧ Aside0 (decklelaw18_Few.l0 kq l0 x3_1 = some r) ∧ Aside0 (kq ≤ k) ∧ Drawn0 w w')
  case atStart => exact ⟨(0), (by first | rfl | (simp; done) | (simp [*]; done)), H', ⟨Nat.le_refl _⟩, by repeat (first | exact Drawn0.refl _ | apply Drawn0.step)⟩
  case round =>
    clear H'
    try clear c1
    obtain ⟨x3_1, rfl, HA, HK1, ⟨m1, rfl⟩⟩ := hrel
    cases gk with
    | zero => exact absurd HA.out (by simp [decklelaw18_Few.l0])
    | succ k1 =>
      have H := HA.out
      clear HA
      simp only [decklelaw18_Few.l0] at H
      have HC2 := Aside0.mk H
      clear H
      go_upto_region 2 with (fail)
      go_cut [13] (fun v13 wc => ∃ (kq : Nat) (x13_1 : Bool), v13 = .bool x13_1 ∧ Aside0 (decklelaw18_Few.j1 kq l0 x3_1 x13_1 = some r) ∧ Aside0 (kq ≤ k1) ∧ Drawn0 w wc)
      case first =>
        have H := HC2.out
        clear HC2
        by_cases c3 : x3_1 < (l0.length : Int)
        · rw [if_pos c3] at H
          have c3b0 : decide (x3_1 < (l0.length : Int)) = true := decide_eq_true c3
          clear c3
          (first | rw [c3b0] | (simp only [i64_w, i32_w]; rw [c3b0]) | skip)
          have H' := Aside0.mk H
          clear H
          go_wp2
          go_meet
          case rel => exact ⟨_, (decide (x3_1 < 30)), (by first | rfl | (simp; done) | (simp [*]; done)), H', ⟨by have := HK1.out; first | omega | exact Nat.le_refl _⟩, by repeat (first | exact Drawn0.refl _ | apply Drawn0.step)⟩
        · rw [if_neg c3] at H
          have c3b0 : decide (x3_1 < (l0.length : Int)) = false := decide_eq_false c3
          clear c3
          (first | rw [c3b0] | (simp only [i64_w, i32_w]; rw [c3b0]) | skip)
          have H' := Aside0.mk H
          clear H
          go_wp2
          go_meet
          case rel => exact ⟨_, (false), (by first | rfl | (simp; done) | (simp [*]; done)), H', ⟨by have := HK1.out; first | omega | exact Nat.le_refl _⟩, by repeat (first | exact Drawn0.refl _ | apply Drawn0.step)⟩
      case rest =>
        clear HC2
        try clear c1
        try clear p2
        try clear c3
        try clear c3b0
        obtain ⟨kq, x13_1, rfl, HA, HJ1, ⟨mc1, rfl⟩⟩ := hcut
        cases kq with
        | zero => exact absurd HA.out (by simp [decklelaw18_Few.j1])
        | succ kj1 =>
          have H := HA.out
          clear HA
          simp only [decklelaw18_Few.j1] at H
          by_cases c4 : x13_1 = true
          · subst c4
            rw [if_pos rfl] at H
            by_cases c5 : 0 ≤ x3_1
            · rw [if_pos c5] at H
              have c5b0 : decide (0 ≤ x3_1) = true := decide_eq_true c5
              clear c5
              by_cases c6 : x3_1 < (l0.length : Int)
              · rw [if_pos c6] at H
                have c6b0 : decide (x3_1 < (l0.length : Int)) = true := decide_eq_true c6
                clear c6
                replace H := Option.bind_eq_some_iff.mp H
                obtain ⟨t148, A70, H⟩ := H
                have A7 := Aside0.mk A70; clear A70
                replace H := Option.bind_eq_some_iff.mp H
                obtain ⟨t150, A80, H⟩ := H
                have A8 := Aside0.mk A80; clear A80
                by_cases c9 : t148 = true
                · subst c9
                  rw [if_pos rfl] at H
                  by_cases c10 : t150 = true
                  · subst c10
                    rw [if_pos rfl] at H
                    by_cases c11 : (((rd_T29 l0 x3_1).f1).size : Int) > 100
                    · rw [if_pos c11] at H
                      have c11b0 : decide (100 < (((rd_T29 l0 x3_1).f1).size : Int)) = true := decide_eq_true c11
                      have c11b1 : decide (100 < ((rd_T29 l0 x3_1).f1).size) = true := decide_eq_true (by omega)
                      clear c11
                      obtain rfl := Option.some.inj H
                      have p147 : 0 ≤ (x3_1 : Int) := of_decide_eq_true (by first | (with_reducible assumption) | assumption)
                      have q147 : x3_1 < (l0.length : Int) := of_decide_eq_true (by first | (with_reducible assumption) | assumption)
                      obtain ⟨ad147, A147_2, c147_2, A147_3, c147_3, e147, hx147_0, hx147_1, hx147_2, hx147_3, hl147_2, hi147_2, hl147_3, hi147_3⟩ := at_T29 HR0.out x3_1 p147 q147
                      cases e147
                      have HR147_2 := Aside0.mk hi147_2
                      have HC147_2 := Aside0.mk hl147_2
                      clear hi147_2 hl147_2
                      have HR147_3 := Aside0.mk hi147_3
                      have HC147_3 := Aside0.mk hl147_3
                      clear hi147_3 hl147_3
                      replace p147 := eq_true p147
                      replace q147 := eq_true q147
                      go_wp2_with (first | ((with_reducible refine gate_callee (f := 30) rfl ?_); refine goesL_ (some 21) rfl rfl Tryz.func30 (by kernel_rfl) rfl #[.slice A147_2 ((rd_T29 l0 x3_1).f2).length c147_2] rfl (by (try simp only [List.map_toArray, List.map_cons, List.map_nil]); first | done | rfl | (simp only [List.length_drop, List.length_take]; rfl)) ?_; (with_reducible refine (decklelaw10_Few.calls kj1 _ _ ((rd_T29 l0 x3_1).f2) true _ ?side1 ?side2 ?side3 A7.out).mono ?_); (case side1 => first | exact hT | ((repeat (with_reducible first | exact hT | apply Tabs.drewN | apply Tabs.drew)); done) | exact Tabs.below hT (by repeat (first | (with_reducible first | exact HB.out | apply below_alloc | apply pw_below_drewN | apply below_drew1) | exact HB.out))); (case side2 => repeat (first | exact HR147_2.out | (with_reducible refine Kd.C_alloc ?_ _) | (with_reducible refine Kd.C_drewN ?_ _) | (with_reducible refine Kd.C_drew ?_))); (case side3 => exact HC147_2.out); rintro e w' ⟨rfl, ⟨nd, rfl⟩⟩; refine ⟨_, rfl, ?_⟩; have p149 : 0 ≤ (x3_1 : Int) := of_decide_eq_true (by first | (with_reducible assumption) | assumption); have q149 : x3_1 < (l0.length : Int) := of_decide_eq_true (by first | (with_reducible assumption) | assumption); obtain ⟨ad149, A149_2, c149_2, A149_3, c149_3, e149, hx149_0, hx149_1, hx149_2, hx149_3, hl149_2, hi149_2, hl149_3, hi149_3⟩ := at_T29 HR0.out x3_1 p149 q149; obtain rfl : ad147 = ad149 := (by injection e149); have HR149_2 := Aside0.mk hi149_2; have HC149_2 := Aside0.mk hl149_2; clear hi149_2 hl149_2; have HR149_3 := Aside0.mk hi149_3; have HC149_3 := Aside0.mk hl149_3; clear hi149_3 hl149_3; replace p149 := eq_true p149; replace q149 := eq_true q149; have ea_ := Option.some.inj (hx147_2.symm.trans hx149_2); injection ea_ with ea_ en_ ec_; subst ea_; subst ec_; clear en_; have ea_ := Option.some.inj (hx147_3.symm.trans hx149_3); injection ea_ with ea_ en_ ec_; subst ea_; subst ec_; clear en_) | ((with_reducible refine gate_callee (f := 45) rfl ?_); refine goesL_ (some 27) rfl rfl Tryz.func45 (by kernel_rfl) rfl #[.slice A147_3 ((rd_T29 l0 x3_1).f3).length c147_3] rfl (by (try simp only [List.map_toArray, List.map_cons, List.map_nil]); first | done | rfl | (simp only [List.length_drop, List.length_take]; rfl)) ?_; (with_reducible refine (decklelaw16_Few.calls kj1 _ _ ((rd_T29 l0 x3_1).f3) true _ ?side1 ?side2 ?side3 A8.out).mono ?_); (case side1 => first | exact hT | ((repeat (with_reducible first | exact hT | apply Tabs.drewN | apply Tabs.drew)); done) | exact Tabs.below hT (by repeat (first | (with_reducible first | exact HB.out | apply below_alloc | apply pw_below_drewN | apply below_drew1) | exact HB.out))); (case side2 => repeat (first | exact HR149_3.out | (with_reducible refine Kd.C_alloc ?_ _) | (with_reducible refine Kd.C_drewN ?_ _) | (with_reducible refine Kd.C_drew ?_))); (case side3 => exact HC149_3.out); rintro e w' ⟨rfl, ⟨nd, rfl⟩⟩; refine ⟨_, rfl, ?_⟩; have p151 : 0 ≤ (x3_1 : Int) := of_decide_eq_true (by first | (with_reducible assumption) | assumption); have q151 : x3_1 < (l0.length : Int) := of_decide_eq_true (by first | (with_reducible assumption) | assumption); obtain ⟨ad151, A151_2, c151_2, A151_3, c151_3, e151, hx151_0, hx151_1, hx151_2, hx151_3, hl151_2, hi151_2, hl151_3, hi151_3⟩ := at_T29 HR0.out x3_1 p151 q151; obtain rfl : ad147 = ad151 := (by injection e151); have HR151_2 := Aside0.mk hi151_2; have HC151_2 := Aside0.mk hl151_2; clear hi151_2 hl151_2; have HR151_3 := Aside0.mk hi151_3; have HC151_3 := Aside0.mk hl151_3; clear hi151_3 hl151_3; replace p151 := eq_true p151; replace q151 := eq_true q151; have ea_ := Option.some.inj (hx147_2.symm.trans hx151_2); injection ea_ with ea_ en_ ec_; subst ea_; subst ec_; clear en_; have ea_ := Option.some.inj (hx147_3.symm.trans hx151_3); injection ea_ with ea_ en_ ec_; subst ea_; subst ec_; clear en_))
                      go_ret
                      exact ⟨by first | rfl | (simp; done) | (simp [*]; done), by repeat (first | exact Drawn0.refl _ | apply Drawn0.step)⟩
                    · rw [if_neg c11] at H
                      have c11b0 : decide (100 < (((rd_T29 l0 x3_1).f1).size : Int)) = false := decide_eq_false c11
                      have c11b1 : decide (100 < ((rd_T29 l0 x3_1).f1).size) = false := decide_eq_false (by omega)
                      clear c11
                      have H' := Aside0.mk H
                      clear H
                      have p147 : 0 ≤ (x3_1 : Int) := of_decide_eq_true (by first | (with_reducible assumption) | assumption)
                      have q147 : x3_1 < (l0.length : Int) := of_decide_eq_true (by first | (with_reducible assumption) | assumption)
                      obtain ⟨ad147, A147_2, c147_2, A147_3, c147_3, e147, hx147_0, hx147_1, hx147_2, hx147_3, hl147_2, hi147_2, hl147_3, hi147_3⟩ := at_T29 HR0.out x3_1 p147 q147
                      cases e147
                      have HR147_2 := Aside0.mk hi147_2
                      have HC147_2 := Aside0.mk hl147_2
                      clear hi147_2 hl147_2
                      have HR147_3 := Aside0.mk hi147_3
                      have HC147_3 := Aside0.mk hl147_3
                      clear hi147_3 hl147_3
                      replace p147 := eq_true p147
                      replace q147 := eq_true q147
                      go_wp2_with (first | ((with_reducible refine gate_callee (f := 30) rfl ?_); refine goesL_ (some 21) rfl rfl Tryz.func30 (by kernel_rfl) rfl #[.slice A147_2 ((rd_T29 l0 x3_1).f2).length c147_2] rfl (by (try simp only [List.map_toArray, List.map_cons, List.map_nil]); first | done | rfl | (simp only [List.length_drop, List.length_take]; rfl)) ?_; (with_reducible refine (decklelaw10_Few.calls kj1 _ _ ((rd_T29 l0 x3_1).f2) true _ ?side1 ?side2 ?side3 A7.out).mono ?_); (case side1 => first | exact hT | ((repeat (with_reducible first | exact hT | apply Tabs.drewN | apply Tabs.drew)); done) | exact Tabs.below hT (by repeat (first | (with_reducible first | exact HB.out | apply below_alloc | apply pw_below_drewN | apply below_drew1) | exact HB.out))); (case side2 => repeat (first | exact HR147_2.out | (with_reducible refine Kd.C_alloc ?_ _) | (with_reducible refine Kd.C_drewN ?_ _) | (with_reducible refine Kd.C_drew ?_))); (case side3 => exact HC147_2.out); rintro e w' ⟨rfl, ⟨nd, rfl⟩⟩; refine ⟨_, rfl, ?_⟩; have p149 : 0 ≤ (x3_1 : Int) := of_decide_eq_true (by first | (with_reducible assumption) | assumption); have q149 : x3_1 < (l0.length : Int) := of_decide_eq_true (by first | (with_reducible assumption) | assumption); obtain ⟨ad149, A149_2, c149_2, A149_3, c149_3, e149, hx149_0, hx149_1, hx149_2, hx149_3, hl149_2, hi149_2, hl149_3, hi149_3⟩ := at_T29 HR0.out x3_1 p149 q149; obtain rfl : ad147 = ad149 := (by injection e149); have HR149_2 := Aside0.mk hi149_2; have HC149_2 := Aside0.mk hl149_2; clear hi149_2 hl149_2; have HR149_3 := Aside0.mk hi149_3; have HC149_3 := Aside0.mk hl149_3; clear hi149_3 hl149_3; replace p149 := eq_true p149; replace q149 := eq_true q149; have ea_ := Option.some.inj (hx147_2.symm.trans hx149_2); injection ea_ with ea_ en_ ec_; subst ea_; subst ec_; clear en_; have ea_ := Option.some.inj (hx147_3.symm.trans hx149_3); injection ea_ with ea_ en_ ec_; subst ea_; subst ec_; clear en_) | ((with_reducible refine gate_callee (f := 45) rfl ?_); refine goesL_ (some 27) rfl rfl Tryz.func45 (by kernel_rfl) rfl #[.slice A147_3 ((rd_T29 l0 x3_1).f3).length c147_3] rfl (by (try simp only [List.map_toArray, List.map_cons, List.map_nil]); first | done | rfl | (simp only [List.length_drop, List.length_take]; rfl)) ?_; (with_reducible refine (decklelaw16_Few.calls kj1 _ _ ((rd_T29 l0 x3_1).f3) true _ ?side1 ?side2 ?side3 A8.out).mono ?_); (case side1 => first | exact hT | ((repeat (with_reducible first | exact hT | apply Tabs.drewN | apply Tabs.drew)); done) | exact Tabs.below hT (by repeat (first | (with_reducible first | exact HB.out | apply below_alloc | apply pw_below_drewN | apply below_drew1) | exact HB.out))); (case side2 => repeat (first | exact HR149_3.out | (with_reducible refine Kd.C_alloc ?_ _) | (with_reducible refine Kd.C_drewN ?_ _) | (with_reducible refine Kd.C_drew ?_))); (case side3 => exact HC149_3.out); rintro e w' ⟨rfl, ⟨nd, rfl⟩⟩; refine ⟨_, rfl, ?_⟩; have p151 : 0 ≤ (x3_1 : Int) := of_decide_eq_true (by first | (with_reducible assumption) | assumption); have q151 : x3_1 < (l0.length : Int) := of_decide_eq_true (by first | (with_reducible assumption) | assumption); obtain ⟨ad151, A151_2, c151_2, A151_3, c151_3, e151, hx151_0, hx151_1, hx151_2, hx151_3, hl151_2, hi151_2, hl151_3, hi151_3⟩ := at_T29 HR0.out x3_1 p151 q151; obtain rfl : ad147 = ad151 := (by injection e151); have HR151_2 := Aside0.mk hi151_2; have HC151_2 := Aside0.mk hl151_2; clear hi151_2 hl151_2; have HR151_3 := Aside0.mk hi151_3; have HC151_3 := Aside0.mk hl151_3; clear hi151_3 hl151_3; replace p151 := eq_true p151; replace q151 := eq_true q151; have ea_ := Option.some.inj (hx147_2.symm.trans hx151_2); injection ea_ with ea_ en_ ec_; subst ea_; subst ec_; clear en_; have ea_ := Option.some.inj (hx147_3.symm.trans hx151_3); injection ea_ with ea_ en_ ec_; subst ea_; subst ec_; clear en_))
                      go_roundg kj1
                      case measure => have := HK1.out; have := HJ1.out; omega
                      case rel => exact ⟨(wrap64 (x3_1 + 1)), (by first | rfl | (simp; done) | (simp [*]; done)), H', ⟨by have := HK1.out; have := HJ1.out; omega⟩, by repeat (first | exact Drawn0.refl _ | apply Drawn0.step)⟩
                  · replace c10 := Bool.eq_false_iff.mpr c10
                    subst c10
                    rw [if_neg (show ¬ (false = true) by decide)] at H
                    obtain rfl := Option.some.inj H
                    have p147 : 0 ≤ (x3_1 : Int) := of_decide_eq_true (by first | (with_reducible assumption) | assumption)
                    have q147 : x3_1 < (l0.length : Int) := of_decide_eq_true (by first | (with_reducible assumption) | assumption)
                    obtain ⟨ad147, A147_2, c147_2, A147_3, c147_3, e147, hx147_0, hx147_1, hx147_2, hx147_3, hl147_2, hi147_2, hl147_3, hi147_3⟩ := at_T29 HR0.out x3_1 p147 q147
                    cases e147
                    have HR147_2 := Aside0.mk hi147_2
                    have HC147_2 := Aside0.mk hl147_2
                    clear hi147_2 hl147_2
                    have HR147_3 := Aside0.mk hi147_3
                    have HC147_3 := Aside0.mk hl147_3
                    clear hi147_3 hl147_3
                    replace p147 := eq_true p147
                    replace q147 := eq_true q147
                    go_wp2_with (first | ((with_reducible refine gate_callee (f := 30) rfl ?_); refine goesL_ (some 21) rfl rfl Tryz.func30 (by kernel_rfl) rfl #[.slice A147_2 ((rd_T29 l0 x3_1).f2).length c147_2] rfl (by (try simp only [List.map_toArray, List.map_cons, List.map_nil]); first | done | rfl | (simp only [List.length_drop, List.length_take]; rfl)) ?_; (with_reducible refine (decklelaw10_Few.calls kj1 _ _ ((rd_T29 l0 x3_1).f2) true _ ?side1 ?side2 ?side3 A7.out).mono ?_); (case side1 => first | exact hT | ((repeat (with_reducible first | exact hT | apply Tabs.drewN | apply Tabs.drew)); done) | exact Tabs.below hT (by repeat (first | (with_reducible first | exact HB.out | apply below_alloc | apply pw_below_drewN | apply below_drew1) | exact HB.out))); (case side2 => repeat (first | exact HR147_2.out | (with_reducible refine Kd.C_alloc ?_ _) | (with_reducible refine Kd.C_drewN ?_ _) | (with_reducible refine Kd.C_drew ?_))); (case side3 => exact HC147_2.out); rintro e w' ⟨rfl, ⟨nd, rfl⟩⟩; refine ⟨_, rfl, ?_⟩; have p149 : 0 ≤ (x3_1 : Int) := of_decide_eq_true (by first | (with_reducible assumption) | assumption); have q149 : x3_1 < (l0.length : Int) := of_decide_eq_true (by first | (with_reducible assumption) | assumption); obtain ⟨ad149, A149_2, c149_2, A149_3, c149_3, e149, hx149_0, hx149_1, hx149_2, hx149_3, hl149_2, hi149_2, hl149_3, hi149_3⟩ := at_T29 HR0.out x3_1 p149 q149; obtain rfl : ad147 = ad149 := (by injection e149); have HR149_2 := Aside0.mk hi149_2; have HC149_2 := Aside0.mk hl149_2; clear hi149_2 hl149_2; have HR149_3 := Aside0.mk hi149_3; have HC149_3 := Aside0.mk hl149_3; clear hi149_3 hl149_3; replace p149 := eq_true p149; replace q149 := eq_true q149; have ea_ := Option.some.inj (hx147_2.symm.trans hx149_2); injection ea_ with ea_ en_ ec_; subst ea_; subst ec_; clear en_; have ea_ := Option.some.inj (hx147_3.symm.trans hx149_3); injection ea_ with ea_ en_ ec_; subst ea_; subst ec_; clear en_) | ((with_reducible refine gate_callee (f := 45) rfl ?_); refine goesL_ (some 27) rfl rfl Tryz.func45 (by kernel_rfl) rfl #[.slice A147_3 ((rd_T29 l0 x3_1).f3).length c147_3] rfl (by (try simp only [List.map_toArray, List.map_cons, List.map_nil]); first | done | rfl | (simp only [List.length_drop, List.length_take]; rfl)) ?_; (with_reducible refine (decklelaw16_Few.calls kj1 _ _ ((rd_T29 l0 x3_1).f3) false _ ?side1 ?side2 ?side3 A8.out).mono ?_); (case side1 => first | exact hT | ((repeat (with_reducible first | exact hT | apply Tabs.drewN | apply Tabs.drew)); done) | exact Tabs.below hT (by repeat (first | (with_reducible first | exact HB.out | apply below_alloc | apply pw_below_drewN | apply below_drew1) | exact HB.out))); (case side2 => repeat (first | exact HR149_3.out | (with_reducible refine Kd.C_alloc ?_ _) | (with_reducible refine Kd.C_drewN ?_ _) | (with_reducible refine Kd.C_drew ?_))); (case side3 => exact HC149_3.out); rintro e w' ⟨rfl, ⟨nd, rfl⟩⟩; refine ⟨_, rfl, ?_⟩))
                    go_ret
                    exact ⟨by first | rfl | (simp; done) | (simp [*]; done), by repeat (first | exact Drawn0.refl _ | apply Drawn0.step)⟩
                · replace c9 := Bool.eq_false_iff.mpr c9
                  subst c9
                  rw [if_neg (show ¬ (false = true) by decide)] at H
                  obtain rfl := Option.some.inj H
                  have p147 : 0 ≤ (x3_1 : Int) := of_decide_eq_true (by first | (with_reducible assumption) | assumption)
                  have q147 : x3_1 < (l0.length : Int) := of_decide_eq_true (by first | (with_reducible assumption) | assumption)
                  obtain ⟨ad147, A147_2, c147_2, A147_3, c147_3, e147, hx147_0, hx147_1, hx147_2, hx147_3, hl147_2, hi147_2, hl147_3, hi147_3⟩ := at_T29 HR0.out x3_1 p147 q147
                  cases e147
                  have HR147_2 := Aside0.mk hi147_2
                  have HC147_2 := Aside0.mk hl147_2
                  clear hi147_2 hl147_2
                  have HR147_3 := Aside0.mk hi147_3
                  have HC147_3 := Aside0.mk hl147_3
                  clear hi147_3 hl147_3
                  replace p147 := eq_true p147
                  replace q147 := eq_true q147
                  go_wp2_with (first | ((with_reducible refine gate_callee (f := 30) rfl ?_); refine goesL_ (some 21) rfl rfl Tryz.func30 (by kernel_rfl) rfl #[.slice A147_2 ((rd_T29 l0 x3_1).f2).length c147_2] rfl (by (try simp only [List.map_toArray, List.map_cons, List.map_nil]); first | done | rfl | (simp only [List.length_drop, List.length_take]; rfl)) ?_; (with_reducible refine (decklelaw10_Few.calls kj1 _ _ ((rd_T29 l0 x3_1).f2) false _ ?side1 ?side2 ?side3 A7.out).mono ?_); (case side1 => first | exact hT | ((repeat (with_reducible first | exact hT | apply Tabs.drewN | apply Tabs.drew)); done) | exact Tabs.below hT (by repeat (first | (with_reducible first | exact HB.out | apply below_alloc | apply pw_below_drewN | apply below_drew1) | exact HB.out))); (case side2 => repeat (first | exact HR147_2.out | (with_reducible refine Kd.C_alloc ?_ _) | (with_reducible refine Kd.C_drewN ?_ _) | (with_reducible refine Kd.C_drew ?_))); (case side3 => exact HC147_2.out); rintro e w' ⟨rfl, ⟨nd, rfl⟩⟩; refine ⟨_, rfl, ?_⟩; have p149 : 0 ≤ (x3_1 : Int) := of_decide_eq_true (by first | (with_reducible assumption) | assumption); have q149 : x3_1 < (l0.length : Int) := of_decide_eq_true (by first | (with_reducible assumption) | assumption); obtain ⟨ad149, A149_2, c149_2, A149_3, c149_3, e149, hx149_0, hx149_1, hx149_2, hx149_3, hl149_2, hi149_2, hl149_3, hi149_3⟩ := at_T29 HR0.out x3_1 p149 q149; obtain rfl : ad147 = ad149 := (by injection e149); have HR149_2 := Aside0.mk hi149_2; have HC149_2 := Aside0.mk hl149_2; clear hi149_2 hl149_2; have HR149_3 := Aside0.mk hi149_3; have HC149_3 := Aside0.mk hl149_3; clear hi149_3 hl149_3; replace p149 := eq_true p149; replace q149 := eq_true q149; have ea_ := Option.some.inj (hx147_2.symm.trans hx149_2); injection ea_ with ea_ en_ ec_; subst ea_; subst ec_; clear en_; have ea_ := Option.some.inj (hx147_3.symm.trans hx149_3); injection ea_ with ea_ en_ ec_; subst ea_; subst ec_; clear en_) | ((with_reducible refine gate_callee (f := 45) rfl ?_); refine goesL_ (some 27) rfl rfl Tryz.func45 (by kernel_rfl) rfl #[.slice A147_3 ((rd_T29 l0 x3_1).f3).length c147_3] rfl (by (try simp only [List.map_toArray, List.map_cons, List.map_nil]); first | done | rfl | (simp only [List.length_drop, List.length_take]; rfl)) ?_; (with_reducible refine (decklelaw16_Few.calls kj1 _ _ ((rd_T29 l0 x3_1).f3) t150 _ ?side1 ?side2 ?side3 A8.out).mono ?_); (case side1 => first | exact hT | ((repeat (with_reducible first | exact hT | apply Tabs.drewN | apply Tabs.drew)); done) | exact Tabs.below hT (by repeat (first | (with_reducible first | exact HB.out | apply below_alloc | apply pw_below_drewN | apply below_drew1) | exact HB.out))); (case side2 => repeat (first | exact HR149_3.out | (with_reducible refine Kd.C_alloc ?_ _) | (with_reducible refine Kd.C_drewN ?_ _) | (with_reducible refine Kd.C_drew ?_))); (case side3 => exact HC149_3.out); rintro e w' ⟨rfl, ⟨nd, rfl⟩⟩; refine ⟨_, rfl, ?_⟩))
                  go_ret
                  exact ⟨by first | rfl | (simp; done) | (simp [*]; done), by repeat (first | exact Drawn0.refl _ | apply Drawn0.step)⟩
              · rw [if_neg c6] at H
                exact absurd H (by simp)
            · rw [if_neg c5] at H
              exact absurd H (by simp)
          · replace c4 := Bool.eq_false_iff.mpr c4
            subst c4
            rw [if_neg (show ¬ (false = true) by decide)] at H
            obtain rfl := Option.some.inj H
            go_wp2
            go_ret
            exact ⟨by first | rfl | (simp; done) | (simp [*]; done), by repeat (first | exact Drawn0.refl _ | apply Drawn0.step)⟩

end Go.Proofs.YtfdeheodjkpkkaaGreatDoor.All
