-- Written for this claim by wip/tools/gprint.py out of the translation (it drives the kit's print). Lean checks it.
import Derived.Test.YtempfafkfkcelaaDoorAll0
import Derived.Test.YtempfafkfkcelaaDoorAll2
import Derived.Test.YtempfafkfkcelaaDoorAll3
import Derived.Test.YtempfafkfkcelaaDoorAll4
namespace Go.Proofs.YtempfafkfkcelaaDoor.All
open Go.RowKit Go.Proofs.YtempfafkfkcelaaDoorW.PrintWords Go.Proofs.YtempfafkfkcelaaDoorW.PrintLast Go.Proofs.YtempfafkfkcelaaDoorW.PrintMore Go.Proofs.YtempfafkfkcelaaDoor.G
attribute [local go_sem] max2_int min2_int max_two min_two max_three min_three max_four min_four str_leq str_gtr str_geq   -- for this text's walks alone
set_option linter.unusedVariables false
set_option linter.unusedSimpArgs false

/-! ### decklelaw20_spaces: function 19 -/
def decklelaw20_spaces.l0 : Nat → Int → ByteArray → Int → Option (ByteArray)
  | 0, _, _, _ => none
  | k + 1, x0, x3, x4 => if x4 < x0 then (if x3.size + 1 ≤ 9223372036854775807 then (decklelaw20_spaces.l0 k x0 (x3 ++ (⟨#[32]⟩ : ByteArray)) (wrap64 (x4 + 1))) else (none)) else (some x3)
def decklelaw20_spaces.f (k : Nat) (a0 : Int) : Option (ByteArray) := decklelaw20_spaces.l0 k a0 (⟨#[]⟩ : ByteArray) 0
theorem decklelaw20_spaces.mono_l : ∀ k, (∀ y0 y1 y2, LeO (decklelaw20_spaces.l0 k y0 y1 y2) (decklelaw20_spaces.l0 (k + 1) y0 y1 y2))
  | 0 => fun _ _ _ r h => by simp [decklelaw20_spaces.l0] at h
  | k + 1 => by
    have ih0 := decklelaw20_spaces.mono_l k
    · intro y0 y1 y2
      unfold decklelaw20_spaces.l0
      repeat' first
      | (with_reducible exact ih0 _ _ _)
      | (with_reducible exact LeO.refl _)
      | (with_reducible exact LeO.none _)
      | (with_reducible refine LeO.ite ?_ ?_)
      | (with_reducible refine LeO.bind ?_ (fun _ => ?_))
      | exact ih0 _ _ _
      | exact LeO.none _
      | refine LeO.ite ?_ ?_
      | refine LeO.bind ?_ (fun _ => ?_)
theorem decklelaw20_spaces.mono : ∀ a0 k, LeO (decklelaw20_spaces.f k a0) (decklelaw20_spaces.f (k + 1) a0) := by
  intro a0 k
  have ih0 := decklelaw20_spaces.mono_l k
  unfold decklelaw20_spaces.f
  repeat' first
      | (with_reducible exact ih0 _ _ _)
      | (with_reducible exact LeO.refl _)
      | (with_reducible exact LeO.none _)
      | (with_reducible refine LeO.ite ?_ ?_)
      | (with_reducible refine LeO.bind ?_ (fun _ => ?_))
      | exact ih0 _ _ _
      | exact LeO.none _
      | refine LeO.ite ?_ ?_
      | refine LeO.bind ?_ (fun _ => ?_)
set_option maxHeartbeats 8000000 in
set_option maxRecDepth 100000 in
theorem decklelaw20_spaces.calls (k : Nat) (a0 : Int) (r : ByteArray) (w : World) (hT : Tabs w) (h : decklelaw20_spaces.f k a0 = some r) :
    Calls Tryd.prog 19 #[.int .i64 a0] w fun e w' => e = .returned (.string r) ∧ Drawn0 w w' := by
  have H : (decklelaw20_spaces.l0 k a0 (⟨#[]⟩ : ByteArray) 0) = some r := h
  clear h
  have H' := Aside0.mk H
  clear H
  go_enter Tryd.func19, Tryd.ntmps19
  go_wp2
  go_loopg [3, 4] k (fun kq v3 v4 w' => ∃ (x3_1 : ByteArray) (x4_1 : Int), v3 = .string x3_1 ∧ v4 = .int .i64 x4_1 ∧ Aside0 (decklelaw20_spaces.l0 kq a0 x3_1 x4_1 = some r) ∧ Aside0 (kq ≤ k) ∧ Drawn0 w w')
  case atStart => exact ⟨((⟨#[]⟩ : ByteArray)), (0), (by first | rfl | (simp; done) | (simp [*]; done)), (by first | rfl | (simp; done) | (simp [*]; done)), H', ⟨Nat.le_refl _⟩, by repeat (first | exact Drawn0.refl _ | apply Drawn0.step)⟩
  case round =>
    clear H'
    try clear c1
    obtain ⟨x3_1, x4_1, rfl, rfl, HA, HK1, ⟨m1, rfl⟩⟩ := hrel
    cases gk with
    | zero => exact absurd HA.out (by simp [decklelaw20_spaces.l0])
    | succ k1 =>
      have H := HA.out
      clear HA
      simp only [decklelaw20_spaces.l0] at H
      by_cases c2 : x4_1 < a0
      · rw [if_pos c2] at H
        have c2b0 : decide (x4_1 < a0) = true := decide_eq_true c2
        clear c2
        by_cases c3 : x3_1.size + 1 ≤ 9223372036854775807
        · rw [if_pos c3] at H
          have c3b0 := eq_true c3
          have c3b1 : decide (x3_1.size + 1 ≤ 9223372036854775807) = true := decide_eq_true c3
          try have c3b2 : (9223372036854775807 < x3_1.size + 1) = False := eq_false (Nat.not_lt.2 c3)
          have H' := Aside0.mk H
          clear H
          go_wp2
          go_roundg k1
          case measure => have := HK1.out; omega
          case rel => exact ⟨(x3_1 ++ (⟨#[32]⟩ : ByteArray)), (wrap64 (x4_1 + 1)), (by first | rfl | (simp; done) | (simp [*]; done)), (by first | rfl | (simp; done) | (simp [*]; done)), H', ⟨by have := HK1.out; omega⟩, by repeat (first | exact Drawn0.refl _ | apply Drawn0.step)⟩
        · rw [if_neg c3] at H
          exact absurd H (by simp)
      · rw [if_neg c2] at H
        have c2b0 : decide (x4_1 < a0) = false := decide_eq_false c2
        clear c2
        obtain rfl := Option.some.inj H
        go_wp2
        go_ret
        exact ⟨by first | rfl | (simp; done) | (simp [*]; done), by repeat (first | exact Drawn0.refl _ | apply Drawn0.step)⟩

/-! ### decklelaw20_small_t: function 8 -/
def decklelaw20_small_t.f (k : Nat)  : Option (Bool) := (record_Put.f k (⟨#[65, 66]⟩ : ByteArray) 7).bind fun bt124 => ((decklelaw20_spaces.f k 68).bind fun t128 => (if 4 + t128.size ≤ 9223372036854775807 then (if ((⟨#[88, 65, 66, 36]⟩ : ByteArray) ++ t128).size + 8 ≤ 9223372036854775807 then ((record_Read.f k (((⟨#[88, 65, 66, 36]⟩ : ByteArray) ++ t128) ++ (⟨#[48, 48, 48, 48, 48, 48, 48, 55]⟩ : ByteArray)) 7).bind fun bt129 => ((record_Read.f k (((⟨#[88, 65, 66, 36]⟩ : ByteArray) ++ t128) ++ (⟨#[48, 48, 48, 48, 48, 48, 48, 55]⟩ : ByteArray)) 8).bind fun bt132 => (if 1 ≤ ((((⟨#[88, 65, 66, 36]⟩ : ByteArray) ++ t128) ++ (⟨#[48, 48, 48, 48, 48, 48, 48, 55]⟩ : ByteArray)).size : Int) then ((record_Read.f k ((((⟨#[88, 65, 66, 36]⟩ : ByteArray) ++ t128) ++ (⟨#[48, 48, 48, 48, 48, 48, 48, 55]⟩ : ByteArray)).extract 1 (4 + t128.size + 8)) 7).bind fun bt135 => ((record_Get.f (([bt129.2.1] : List ByteArray))).bind fun bt141 => ((record_Get.f (([(⟨#[65, 66]⟩ : ByteArray)] : List ByteArray))).bind fun bt146 => ((record_Get.f (([(⟨#[97, 32, 36]⟩ : ByteArray), (⟨#[36, 32, 32]⟩ : ByteArray), (⟨#[]⟩ : ByteArray)] : List ByteArray))).bind fun bt151 => ((record_Line.f 89 (⟨#[]⟩ : ByteArray) 0).bind fun bt153 => ((record_Line.f 42 (⟨#[99]⟩ : ByteArray) 123456789).bind fun bt155 => ((record_Put.f k (⟨#[10]⟩ : ByteArray) 0).bind fun bt157 => (if bt124.2 = true then ((deckleref16_Same.f k bt124.1 (([((⟨#[88, 65, 66, 36]⟩ : ByteArray) ++ t128) ++ (⟨#[48, 48, 48, 48, 48, 48, 48, 55]⟩ : ByteArray)] : List ByteArray))).bind fun t164 => (if t164 = true then (if bt129.1 = 88 then ((decklelaw20_spaces.f k 68).bind fun t165 => (if 3 + t165.size ≤ 9223372036854775807 then (if bt129.2.1.toList = ((⟨#[65, 66, 36]⟩ : ByteArray) ++ t165).toList then (if bt129.2.2 = true then (if bt132.2.2 = true then (some false) else (if bt135.2.2 = true then (some false) else (if bt141.1.toList = ([65, 66] : List UInt8) then (if bt141.2 = true then (if bt146.2 = true then (some false) else (if bt151.1.toList = ([97, 32, 36] : List UInt8) then (if bt151.2 = true then (if bt153.2 = true then (some false) else ((decklelaw20_spaces.f k 70).bind fun t166 => (if 2 + t166.size ≤ 9223372036854775807 then (if ((⟨#[42, 99]⟩ : ByteArray) ++ t166).size + 8 ≤ 9223372036854775807 then (if bt155.1.toList = (((⟨#[42, 99]⟩ : ByteArray) ++ t166) ++ (⟨#[50, 51, 52, 53, 54, 55, 56, 57]⟩ : ByteArray)).toList then (if bt155.2 = true then (some (!bt157.2)) else (some false)) else (some false)) else (none)) else (none)))) else (some false)) else (some false))) else (some false)) else (some false)))) else (some false)) else (some false)) else (none))) else (some false)) else (some false))) else (some false))))))))) else (none)))) else (none)) else (none)))
theorem decklelaw20_small_t.mono : ∀ k, LeO (decklelaw20_small_t.f k ) (decklelaw20_small_t.f (k + 1) ) := by
  intro  k
  unfold decklelaw20_small_t.f
  repeat' first
      | (with_reducible exact decklelaw20_spaces.mono _ _)
      | (with_reducible exact deckleref16_Same.mono _ _ _)
      | (with_reducible exact record_Put.mono _ _ _)
      | (with_reducible exact record_Read.mono _ _ _)
      | (with_reducible exact LeO.refl _)
      | (with_reducible exact LeO.none _)
      | (with_reducible refine LeO.ite ?_ ?_)
      | (with_reducible refine LeO.bind ?_ (fun _ => ?_))
      | exact decklelaw20_spaces.mono _ _
      | exact deckleref16_Same.mono _ _ _
      | exact record_Put.mono _ _ _
      | exact record_Read.mono _ _ _
      | exact LeO.none _
      | refine LeO.ite ?_ ?_
      | refine LeO.bind ?_ (fun _ => ?_)
set_option maxHeartbeats 8000000 in
set_option maxRecDepth 100000 in
theorem decklelaw20_small_t.calls (k : Nat)  (r : Bool) (w : World) (hT : Tabs w) (hr : r = true) (h : decklelaw20_small_t.f k  = some r) :
    Calls Tryd.prog 8 #[] w fun e w' => e = .returned (.bool r) ∧ Below w.heap.size w w' := by
  have HB := Aside0.mk (Below.refl w.heap.size w)
  have H : ((record_Put.f k (⟨#[65, 66]⟩ : ByteArray) 7).bind fun bt124 => ((decklelaw20_spaces.f k 68).bind fun t128 => (if 4 + t128.size ≤ 9223372036854775807 then (if ((⟨#[88, 65, 66, 36]⟩ : ByteArray) ++ t128).size + 8 ≤ 9223372036854775807 then ((record_Read.f k (((⟨#[88, 65, 66, 36]⟩ : ByteArray) ++ t128) ++ (⟨#[48, 48, 48, 48, 48, 48, 48, 55]⟩ : ByteArray)) 7).bind fun bt129 => ((record_Read.f k (((⟨#[88, 65, 66, 36]⟩ : ByteArray) ++ t128) ++ (⟨#[48, 48, 48, 48, 48, 48, 48, 55]⟩ : ByteArray)) 8).bind fun bt132 => (if 1 ≤ ((((⟨#[88, 65, 66, 36]⟩ : ByteArray) ++ t128) ++ (⟨#[48, 48, 48, 48, 48, 48, 48, 55]⟩ : ByteArray)).size : Int) then ((record_Read.f k ((((⟨#[88, 65, 66, 36]⟩ : ByteArray) ++ t128) ++ (⟨#[48, 48, 48, 48, 48, 48, 48, 55]⟩ : ByteArray)).extract 1 (4 + t128.size + 8)) 7).bind fun bt135 => ((record_Get.f (([bt129.2.1] : List ByteArray))).bind fun bt141 => ((record_Get.f (([(⟨#[65, 66]⟩ : ByteArray)] : List ByteArray))).bind fun bt146 => ((record_Get.f (([(⟨#[97, 32, 36]⟩ : ByteArray), (⟨#[36, 32, 32]⟩ : ByteArray), (⟨#[]⟩ : ByteArray)] : List ByteArray))).bind fun bt151 => ((record_Line.f 89 (⟨#[]⟩ : ByteArray) 0).bind fun bt153 => ((record_Line.f 42 (⟨#[99]⟩ : ByteArray) 123456789).bind fun bt155 => ((record_Put.f k (⟨#[10]⟩ : ByteArray) 0).bind fun bt157 => (if bt124.2 = true then ((deckleref16_Same.f k bt124.1 (([((⟨#[88, 65, 66, 36]⟩ : ByteArray) ++ t128) ++ (⟨#[48, 48, 48, 48, 48, 48, 48, 55]⟩ : ByteArray)] : List ByteArray))).bind fun t164 => (if t164 = true then (if bt129.1 = 88 then ((decklelaw20_spaces.f k 68).bind fun t165 => (if 3 + t165.size ≤ 9223372036854775807 then (if bt129.2.1.toList = ((⟨#[65, 66, 36]⟩ : ByteArray) ++ t165).toList then (if bt129.2.2 = true then (if bt132.2.2 = true then (some false) else (if bt135.2.2 = true then (some false) else (if bt141.1.toList = ([65, 66] : List UInt8) then (if bt141.2 = true then (if bt146.2 = true then (some false) else (if bt151.1.toList = ([97, 32, 36] : List UInt8) then (if bt151.2 = true then (if bt153.2 = true then (some false) else ((decklelaw20_spaces.f k 70).bind fun t166 => (if 2 + t166.size ≤ 9223372036854775807 then (if ((⟨#[42, 99]⟩ : ByteArray) ++ t166).size + 8 ≤ 9223372036854775807 then (if bt155.1.toList = (((⟨#[42, 99]⟩ : ByteArray) ++ t166) ++ (⟨#[50, 51, 52, 53, 54, 55, 56, 57]⟩ : ByteArray)).toList then (if bt155.2 = true then (some (!bt157.2)) else (some false)) else (some false)) else (none)) else (none)))) else (some false)) else (some false))) else (some false)) else (some false)))) else (some false)) else (some false)) else (none))) else (some false)) else (some false))) else (some false))))))))) else (none)))) else (none)) else (none)))) = some r := h
  clear h
  replace H := Option.bind_eq_some_iff.mp H
  obtain ⟨⟨t124, t125⟩, A10, H⟩ := H
  try dsimp only at H
  have A1 := Aside0.mk A10; clear A10
  replace H := Option.bind_eq_some_iff.mp H
  obtain ⟨t128, A20, H⟩ := H
  have A2 := Aside0.mk A20; clear A20
  by_cases c3 : 4 + t128.size ≤ 9223372036854775807
  · rw [if_pos c3] at H
    have c3b0 := eq_true c3
    have c3b1 : decide (4 + t128.size ≤ 9223372036854775807) = true := decide_eq_true c3
    try have c3b2 : (9223372036854775807 < 4 + t128.size) = False := eq_false (Nat.not_lt.2 c3)
    by_cases c4 : ((⟨#[88, 65, 66, 36]⟩ : ByteArray) ++ t128).size + 8 ≤ 9223372036854775807
    · rw [if_pos c4] at H
      have c4b0 := eq_true c4
      have c4b1 : decide (((⟨#[88, 65, 66, 36]⟩ : ByteArray) ++ t128).size + 8 ≤ 9223372036854775807) = true := decide_eq_true c4
      try have c4b2 : (9223372036854775807 < ((⟨#[88, 65, 66, 36]⟩ : ByteArray) ++ t128).size + 8) = False := eq_false (Nat.not_lt.2 c4)
      try have c4b3 : (9223372036854775807 < 4 + t128.size + 8) = False := eq_false (Nat.not_lt.2 (by have h_ := c4; simp only [ByteArray.size_append] at h_; exact h_))
      replace H := Option.bind_eq_some_iff.mp H
      obtain ⟨⟨t129, t130, t131⟩, A50, H⟩ := H
      try dsimp only at H
      have A5 := Aside0.mk A50; clear A50
      replace H := Option.bind_eq_some_iff.mp H
      obtain ⟨⟨t132, t133, t134⟩, A60, H⟩ := H
      try dsimp only at H
      have A6 := Aside0.mk A60; clear A60
      by_cases c7 : 1 ≤ ((((⟨#[88, 65, 66, 36]⟩ : ByteArray) ++ t128) ++ (⟨#[48, 48, 48, 48, 48, 48, 48, 55]⟩ : ByteArray)).size : Int)
      · rw [if_pos c7] at H
        have c7b0 := eq_true c7
        have c7b1 : decide (1 ≤ ((((⟨#[88, 65, 66, 36]⟩ : ByteArray) ++ t128) ++ (⟨#[48, 48, 48, 48, 48, 48, 48, 55]⟩ : ByteArray)).size : Int)) = true := decide_eq_true c7
        replace H := Option.bind_eq_some_iff.mp H
        obtain ⟨⟨t135, t136, t137⟩, A80, H⟩ := H
        try dsimp only at H
        have A8 := Aside0.mk A80; clear A80
        obtain ⟨y138, hy138⟩ : ∃ y_ : List ByteArray, y_ = (([t130] : List ByteArray)) := ⟨_, rfl⟩
        replace H : ((record_Get.f y138).bind fun bt141 => ((record_Get.f (([(⟨#[65, 66]⟩ : ByteArray)] : List ByteArray))).bind fun bt146 => ((record_Get.f (([(⟨#[97, 32, 36]⟩ : ByteArray), (⟨#[36, 32, 32]⟩ : ByteArray), (⟨#[]⟩ : ByteArray)] : List ByteArray))).bind fun bt151 => ((record_Line.f 89 (⟨#[]⟩ : ByteArray) 0).bind fun bt153 => ((record_Line.f 42 (⟨#[99]⟩ : ByteArray) 123456789).bind fun bt155 => ((record_Put.f k (⟨#[10]⟩ : ByteArray) 0).bind fun bt157 => (if t125 = true then ((deckleref16_Same.f k t124 (([((⟨#[88, 65, 66, 36]⟩ : ByteArray) ++ t128) ++ (⟨#[48, 48, 48, 48, 48, 48, 48, 55]⟩ : ByteArray)] : List ByteArray))).bind fun t164 => (if t164 = true then (if t129 = 88 then ((decklelaw20_spaces.f k 68).bind fun t165 => (if 3 + t165.size ≤ 9223372036854775807 then (if t130.toList = ((⟨#[65, 66, 36]⟩ : ByteArray) ++ t165).toList then (if t131 = true then (if t134 = true then (some false) else (if t137 = true then (some false) else (if bt141.1.toList = ([65, 66] : List UInt8) then (if bt141.2 = true then (if bt146.2 = true then (some false) else (if bt151.1.toList = ([97, 32, 36] : List UInt8) then (if bt151.2 = true then (if bt153.2 = true then (some false) else ((decklelaw20_spaces.f k 70).bind fun t166 => (if 2 + t166.size ≤ 9223372036854775807 then (if ((⟨#[42, 99]⟩ : ByteArray) ++ t166).size + 8 ≤ 9223372036854775807 then (if bt155.1.toList = (((⟨#[42, 99]⟩ : ByteArray) ++ t166) ++ (⟨#[50, 51, 52, 53, 54, 55, 56, 57]⟩ : ByteArray)).toList then (if bt155.2 = true then (some (!bt157.2)) else (some false)) else (some false)) else (none)) else (none)))) else (some false)) else (some false))) else (some false)) else (some false)))) else (some false)) else (some false)) else (none))) else (some false)) else (some false))) else (some false)))))))) = some r := by first | (rw [hy138]; with_reducible exact H) | (have H2_ := (Option.bind_some _ _).symm.trans H; rw [hy138]; with_reducible exact H2_) | (have H2_ := (Option.bind_some _ _).symm.trans H; with_reducible exact H2_) | with_reducible exact H | (rw [hy138]; exact H) | exact H
        have Ny138 := Aside0.mk hy138
        clear hy138
        replace H := Option.bind_eq_some_iff.mp H
        obtain ⟨⟨t141, t142⟩, A90, H⟩ := H
        try dsimp only at H
        have A9 := Aside0.mk A90; clear A90
        obtain ⟨y143, hy143⟩ : ∃ y_ : List ByteArray, y_ = (([(⟨#[65, 66]⟩ : ByteArray)] : List ByteArray)) := ⟨_, rfl⟩
        replace H : ((record_Get.f y143).bind fun bt146 => ((record_Get.f (([(⟨#[97, 32, 36]⟩ : ByteArray), (⟨#[36, 32, 32]⟩ : ByteArray), (⟨#[]⟩ : ByteArray)] : List ByteArray))).bind fun bt151 => ((record_Line.f 89 (⟨#[]⟩ : ByteArray) 0).bind fun bt153 => ((record_Line.f 42 (⟨#[99]⟩ : ByteArray) 123456789).bind fun bt155 => ((record_Put.f k (⟨#[10]⟩ : ByteArray) 0).bind fun bt157 => (if t125 = true then ((deckleref16_Same.f k t124 (([((⟨#[88, 65, 66, 36]⟩ : ByteArray) ++ t128) ++ (⟨#[48, 48, 48, 48, 48, 48, 48, 55]⟩ : ByteArray)] : List ByteArray))).bind fun t164 => (if t164 = true then (if t129 = 88 then ((decklelaw20_spaces.f k 68).bind fun t165 => (if 3 + t165.size ≤ 9223372036854775807 then (if t130.toList = ((⟨#[65, 66, 36]⟩ : ByteArray) ++ t165).toList then (if t131 = true then (if t134 = true then (some false) else (if t137 = true then (some false) else (if t141.toList = ([65, 66] : List UInt8) then (if t142 = true then (if bt146.2 = true then (some false) else (if bt151.1.toList = ([97, 32, 36] : List UInt8) then (if bt151.2 = true then (if bt153.2 = true then (some false) else ((decklelaw20_spaces.f k 70).bind fun t166 => (if 2 + t166.size ≤ 9223372036854775807 then (if ((⟨#[42, 99]⟩ : ByteArray) ++ t166).size + 8 ≤ 9223372036854775807 then (if bt155.1.toList = (((⟨#[42, 99]⟩ : ByteArray) ++ t166) ++ (⟨#[50, 51, 52, 53, 54, 55, 56, 57]⟩ : ByteArray)).toList then (if bt155.2 = true then (some (!bt157.2)) else (some false)) else (some false)) else (none)) else (none)))) else (some false)) else (some false))) else (some false)) else (some false)))) else (some false)) else (some false)) else (none))) else (some false)) else (some false))) else (some false))))))) = some r := by first | (rw [hy143]; with_reducible exact H) | (have H2_ := (Option.bind_some _ _).symm.trans H; rw [hy143]; with_reducible exact H2_) | (have H2_ := (Option.bind_some _ _).symm.trans H; with_reducible exact H2_) | with_reducible exact H | (rw [hy143]; exact H) | exact H
        have Ny143 := Aside0.mk hy143
        clear hy143
        replace H := Option.bind_eq_some_iff.mp H
        obtain ⟨⟨t146, t147⟩, A100, H⟩ := H
        try dsimp only at H
        have A10 := Aside0.mk A100; clear A100
        obtain ⟨y148, hy148⟩ : ∃ y_ : List ByteArray, y_ = (([(⟨#[97, 32, 36]⟩ : ByteArray), (⟨#[36, 32, 32]⟩ : ByteArray), (⟨#[]⟩ : ByteArray)] : List ByteArray)) := ⟨_, rfl⟩
        replace H : ((record_Get.f y148).bind fun bt151 => ((record_Line.f 89 (⟨#[]⟩ : ByteArray) 0).bind fun bt153 => ((record_Line.f 42 (⟨#[99]⟩ : ByteArray) 123456789).bind fun bt155 => ((record_Put.f k (⟨#[10]⟩ : ByteArray) 0).bind fun bt157 => (if t125 = true then ((deckleref16_Same.f k t124 (([((⟨#[88, 65, 66, 36]⟩ : ByteArray) ++ t128) ++ (⟨#[48, 48, 48, 48, 48, 48, 48, 55]⟩ : ByteArray)] : List ByteArray))).bind fun t164 => (if t164 = true then (if t129 = 88 then ((decklelaw20_spaces.f k 68).bind fun t165 => (if 3 + t165.size ≤ 9223372036854775807 then (if t130.toList = ((⟨#[65, 66, 36]⟩ : ByteArray) ++ t165).toList then (if t131 = true then (if t134 = true then (some false) else (if t137 = true then (some false) else (if t141.toList = ([65, 66] : List UInt8) then (if t142 = true then (if t147 = true then (some false) else (if bt151.1.toList = ([97, 32, 36] : List UInt8) then (if bt151.2 = true then (if bt153.2 = true then (some false) else ((decklelaw20_spaces.f k 70).bind fun t166 => (if 2 + t166.size ≤ 9223372036854775807 then (if ((⟨#[42, 99]⟩ : ByteArray) ++ t166).size + 8 ≤ 9223372036854775807 then (if bt155.1.toList = (((⟨#[42, 99]⟩ : ByteArray) ++ t166) ++ (⟨#[50, 51, 52, 53, 54, 55, 56, 57]⟩ : ByteArray)).toList then (if bt155.2 = true then (some (!bt157.2)) else (some false)) else (some false)) else (none)) else (none)))) else (some false)) else (some false))) else (some false)) else (some false)))) else (some false)) else (some false)) else (none))) else (some false)) else (some false))) else (some false)))))) = some r := by first | (rw [hy148]; with_reducible exact H) | (have H2_ := (Option.bind_some _ _).symm.trans H; rw [hy148]; with_reducible exact H2_) | (have H2_ := (Option.bind_some _ _).symm.trans H; with_reducible exact H2_) | with_reducible exact H | (rw [hy148]; exact H) | exact H
        have Ny148 := Aside0.mk hy148
        clear hy148
        replace H := Option.bind_eq_some_iff.mp H
        obtain ⟨⟨t151, t152⟩, A110, H⟩ := H
        try dsimp only at H
        have A11 := Aside0.mk A110; clear A110
        replace H := Option.bind_eq_some_iff.mp H
        obtain ⟨⟨t153, t154⟩, A120, H⟩ := H
        try dsimp only at H
        have A12 := Aside0.mk A120; clear A120
        replace H := Option.bind_eq_some_iff.mp H
        obtain ⟨⟨t155, t156⟩, A130, H⟩ := H
        try dsimp only at H
        have A13 := Aside0.mk A130; clear A130
        replace H := Option.bind_eq_some_iff.mp H
        obtain ⟨⟨t157, t158⟩, A140, H⟩ := H
        try dsimp only at H
        have A14 := Aside0.mk A140; clear A140
        by_cases c15 : t125 = true
        · subst c15
          rw [if_pos rfl] at H
          obtain ⟨y161, hy161⟩ : ∃ y_ : List ByteArray, y_ = (([((⟨#[88, 65, 66, 36]⟩ : ByteArray) ++ t128) ++ (⟨#[48, 48, 48, 48, 48, 48, 48, 55]⟩ : ByteArray)] : List ByteArray)) := ⟨_, rfl⟩
          replace H : ((deckleref16_Same.f k t124 y161).bind fun t164 => (if t164 = true then (if t129 = 88 then ((decklelaw20_spaces.f k 68).bind fun t165 => (if 3 + t165.size ≤ 9223372036854775807 then (if t130.toList = ((⟨#[65, 66, 36]⟩ : ByteArray) ++ t165).toList then (if t131 = true then (if t134 = true then (some false) else (if t137 = true then (some false) else (if t141.toList = ([65, 66] : List UInt8) then (if t142 = true then (if t147 = true then (some false) else (if t151.toList = ([97, 32, 36] : List UInt8) then (if t152 = true then (if t154 = true then (some false) else ((decklelaw20_spaces.f k 70).bind fun t166 => (if 2 + t166.size ≤ 9223372036854775807 then (if ((⟨#[42, 99]⟩ : ByteArray) ++ t166).size + 8 ≤ 9223372036854775807 then (if t155.toList = (((⟨#[42, 99]⟩ : ByteArray) ++ t166) ++ (⟨#[50, 51, 52, 53, 54, 55, 56, 57]⟩ : ByteArray)).toList then (if t156 = true then (some (!t158)) else (some false)) else (some false)) else (none)) else (none)))) else (some false)) else (some false))) else (some false)) else (some false)))) else (some false)) else (some false)) else (none))) else (some false)) else (some false))) = some r := by first | (rw [hy161]; with_reducible exact H) | (have H2_ := (Option.bind_some _ _).symm.trans H; rw [hy161]; with_reducible exact H2_) | (have H2_ := (Option.bind_some _ _).symm.trans H; with_reducible exact H2_) | with_reducible exact H | (rw [hy161]; exact H) | exact H
          have Ny161 := Aside0.mk hy161
          clear hy161
          replace H := Option.bind_eq_some_iff.mp H
          obtain ⟨t164, A160, H⟩ := H
          have A16 := Aside0.mk A160; clear A160
          by_cases c17 : t164 = true
          · subst c17
            rw [if_pos rfl] at H
            by_cases c18 : t129 = 88
            · rw [if_pos c18] at H
              have c18b0 : (t129 == 88) = true := beq_iff_eq.mpr c18
              have c18b1 : (t129 != 88) = false := bne_eq_false_iff_eq.mpr c18
              clear c18
              replace H := Option.bind_eq_some_iff.mp H
              obtain ⟨t165, A190, H⟩ := H
              have A19 := Aside0.mk A190; clear A190
              by_cases c20 : 3 + t165.size ≤ 9223372036854775807
              · rw [if_pos c20] at H
                have c20b0 := eq_true c20
                have c20b1 : decide (3 + t165.size ≤ 9223372036854775807) = true := decide_eq_true c20
                try have c20b2 : (9223372036854775807 < 3 + t165.size) = False := eq_false (Nat.not_lt.2 c20)
                by_cases c21 : t130.toList = ((⟨#[65, 66, 36]⟩ : ByteArray) ++ t165).toList
                · rw [if_pos c21] at H
                  have c21b0 : (t130.toList == ((⟨#[65, 66, 36]⟩ : ByteArray) ++ t165).toList) = true := beq_iff_eq.mpr c21
                  have c21b1 : (t130.toList != ((⟨#[65, 66, 36]⟩ : ByteArray) ++ t165).toList) = false := bne_eq_false_iff_eq.mpr c21
                  clear c21
                  by_cases c22 : t131 = true
                  · subst c22
                    rw [if_pos rfl] at H
                    by_cases c23 : t134 = true
                    · subst c23
                      rw [if_pos rfl] at H
                      exact absurd (Option.some.inj H) (by rw [hr]; decide)
                    · replace c23 := Bool.eq_false_iff.mpr c23
                      subst c23
                      rw [if_neg (show ¬ (false = true) by decide)] at H
                      by_cases c24 : t137 = true
                      · subst c24
                        rw [if_pos rfl] at H
                        exact absurd (Option.some.inj H) (by rw [hr]; decide)
                      · replace c24 := Bool.eq_false_iff.mpr c24
                        subst c24
                        rw [if_neg (show ¬ (false = true) by decide)] at H
                        by_cases c25 : t141.toList = ([65, 66] : List UInt8)
                        · rw [if_pos c25] at H
                          have c25b0 : (t141.toList == ([65, 66] : List UInt8)) = true := beq_iff_eq.mpr c25
                          have c25b1 : (t141.toList != ([65, 66] : List UInt8)) = false := bne_eq_false_iff_eq.mpr c25
                          clear c25
                          by_cases c26 : t142 = true
                          · subst c26
                            rw [if_pos rfl] at H
                            by_cases c27 : t147 = true
                            · subst c27
                              rw [if_pos rfl] at H
                              exact absurd (Option.some.inj H) (by rw [hr]; decide)
                            · replace c27 := Bool.eq_false_iff.mpr c27
                              subst c27
                              rw [if_neg (show ¬ (false = true) by decide)] at H
                              by_cases c28 : t151.toList = ([97, 32, 36] : List UInt8)
                              · rw [if_pos c28] at H
                                have c28b0 : (t151.toList == ([97, 32, 36] : List UInt8)) = true := beq_iff_eq.mpr c28
                                have c28b1 : (t151.toList != ([97, 32, 36] : List UInt8)) = false := bne_eq_false_iff_eq.mpr c28
                                clear c28
                                by_cases c29 : t152 = true
                                · subst c29
                                  rw [if_pos rfl] at H
                                  by_cases c30 : t154 = true
                                  · subst c30
                                    rw [if_pos rfl] at H
                                    exact absurd (Option.some.inj H) (by rw [hr]; decide)
                                  · replace c30 := Bool.eq_false_iff.mpr c30
                                    subst c30
                                    rw [if_neg (show ¬ (false = true) by decide)] at H
                                    replace H := Option.bind_eq_some_iff.mp H
                                    obtain ⟨t166, A310, H⟩ := H
                                    have A31 := Aside0.mk A310; clear A310
                                    by_cases c32 : 2 + t166.size ≤ 9223372036854775807
                                    · rw [if_pos c32] at H
                                      have c32b0 := eq_true c32
                                      have c32b1 : decide (2 + t166.size ≤ 9223372036854775807) = true := decide_eq_true c32
                                      try have c32b2 : (9223372036854775807 < 2 + t166.size) = False := eq_false (Nat.not_lt.2 c32)
                                      by_cases c33 : ((⟨#[42, 99]⟩ : ByteArray) ++ t166).size + 8 ≤ 9223372036854775807
                                      · rw [if_pos c33] at H
                                        have c33b0 := eq_true c33
                                        have c33b1 : decide (((⟨#[42, 99]⟩ : ByteArray) ++ t166).size + 8 ≤ 9223372036854775807) = true := decide_eq_true c33
                                        try have c33b2 : (9223372036854775807 < ((⟨#[42, 99]⟩ : ByteArray) ++ t166).size + 8) = False := eq_false (Nat.not_lt.2 c33)
                                        try have c33b3 : (9223372036854775807 < 2 + t166.size + 8) = False := eq_false (Nat.not_lt.2 (by have h_ := c33; simp only [ByteArray.size_append] at h_; exact h_))
                                        by_cases c34 : t155.toList = (((⟨#[42, 99]⟩ : ByteArray) ++ t166) ++ (⟨#[50, 51, 52, 53, 54, 55, 56, 57]⟩ : ByteArray)).toList
                                        · rw [if_pos c34] at H
                                          have c34b0 : (t155.toList == (((⟨#[42, 99]⟩ : ByteArray) ++ t166) ++ (⟨#[50, 51, 52, 53, 54, 55, 56, 57]⟩ : ByteArray)).toList) = true := beq_iff_eq.mpr c34
                                          have c34b1 : (t155.toList != (((⟨#[42, 99]⟩ : ByteArray) ++ t166) ++ (⟨#[50, 51, 52, 53, 54, 55, 56, 57]⟩ : ByteArray)).toList) = false := bne_eq_false_iff_eq.mpr c34
                                          clear c34
                                          by_cases c35 : t156 = true
                                          · subst c35
                                            rw [if_pos rfl] at H
                                            clear hr
                                            obtain rfl := Option.some.inj H
                                            go_enter Tryd.func8, Tryd.ntmps8
                                            go_wp2_with (first | ((with_reducible refine gate_callee (f := 14) rfl ?_); refine goesL_ (some 26) rfl rfl Tryd.func14 (by kernel_rfl) rfl #[.string (⟨#[65, 66]⟩ : ByteArray), .int .i64 7] rfl (by (try simp only [List.map_toArray, List.map_cons, List.map_nil]); first | done | rfl | (simp only [List.length_drop, List.length_take]; rfl)) ?_; (with_reducible refine (record_Put.calls k (⟨#[65, 66]⟩ : ByteArray) 7 t124 true _ ?side1 A1.out).mono ?_); (case side1 => first | exact hT | exact Tabs.below hT (by repeat (first | (with_reducible first | exact HB.out | apply below_alloc | apply pw_below_drewN | apply below_drew1) | exact HB.out)) | ((repeat (first | exact hT | apply Tabs.drewN | apply Tabs.drew)); done)); rintro e w36 ⟨v126, rfl, ho0, hb⟩; refine ⟨_, rfl, ?_⟩; have n0_ := Aside0.mk (Kd.R_lower ho0 (below_size (by repeat (first | (with_reducible first | exact HB.out | apply below_alloc | apply pw_below_drewN | apply below_drew1) | exact HB.out)))); have n1_ := Aside0.mk (below_step (by repeat (first | (with_reducible first | exact HB.out | apply below_alloc | apply pw_below_drewN | apply below_drew1) | exact HB.out)) hb); clear HB; have HO127 := n0_; have HB := n1_; clear n0_ n1_; (try clear hb); (try clear hb2); (try clear hk); (try clear hi); (try clear ho0)) | ((with_reducible refine gate_callee (f := 19) rfl ?_); refine goesL_ (some 29) rfl rfl Tryd.func19 (by kernel_rfl) rfl #[.int .i64 68] rfl (by (try simp only [List.map_toArray, List.map_cons, List.map_nil]); first | done | rfl | (simp only [List.length_drop, List.length_take]; rfl)) ?_; (with_reducible refine (decklelaw20_spaces.calls k 68 t128 _ ?side1 A2.out).mono ?_); (case side1 => first | exact hT | exact Tabs.below hT (by repeat (first | (with_reducible first | exact HB.out | apply below_alloc | apply pw_below_drewN | apply below_drew1) | exact HB.out)) | ((repeat (first | exact hT | apply Tabs.drewN | apply Tabs.drew)); done)); rintro e w' ⟨rfl, ⟨nd, rfl⟩⟩; refine ⟨_, rfl, ?_⟩) | ((with_reducible refine gate_callee (f := 12) rfl ?_); refine goesL_ (some 34) rfl rfl Tryd.func12 (by kernel_rfl) rfl #[.string (((⟨#[88, 65, 66, 36]⟩ : ByteArray) ++ t128) ++ (⟨#[48, 48, 48, 48, 48, 48, 48, 55]⟩ : ByteArray)), .int .i64 7] rfl (by (try simp only [List.map_toArray, List.map_cons, List.map_nil]); first | done | rfl | (simp only [List.length_drop, List.length_take]; rfl)) ?_; (with_reducible refine (record_Read.calls k (((⟨#[88, 65, 66, 36]⟩ : ByteArray) ++ t128) ++ (⟨#[48, 48, 48, 48, 48, 48, 48, 55]⟩ : ByteArray)) 7 t129 t130 true _ ?side1 A5.out).mono ?_); (case side1 => first | exact hT | exact Tabs.below hT (by repeat (first | (with_reducible first | exact HB.out | apply below_alloc | apply pw_below_drewN | apply below_drew1) | exact HB.out)) | ((repeat (first | exact hT | apply Tabs.drewN | apply Tabs.drew)); done)); rintro e w37 ⟨rfl, hb⟩; refine ⟨_, rfl, ?_⟩; have n0_ := Aside0.mk (Kd.R_below (by (with_reducible repeat (first | apply Kd.R_alloc | apply Kd.R_drewN | apply Kd.R_drew)); exact HO127.out) hb); have n1_ := Aside0.mk (below_step (by repeat (first | (with_reducible first | exact HB.out | apply below_alloc | apply pw_below_drewN | apply below_drew1) | exact HB.out)) hb); clear HO127; clear HB; have HO127 := n0_; have HB := n1_; clear n0_ n1_; (try clear hb); (try clear hb2); (try clear hk); (try clear hi)) | ((with_reducible refine gate_callee (f := 12) rfl ?_); refine goesL_ (some 40) rfl rfl Tryd.func12 (by kernel_rfl) rfl #[.string (((⟨#[88, 65, 66, 36]⟩ : ByteArray) ++ t128) ++ (⟨#[48, 48, 48, 48, 48, 48, 48, 55]⟩ : ByteArray)), .int .i64 8] rfl (by (try simp only [List.map_toArray, List.map_cons, List.map_nil]); first | done | rfl | (simp only [List.length_drop, List.length_take]; rfl)) ?_; (with_reducible refine (record_Read.calls k (((⟨#[88, 65, 66, 36]⟩ : ByteArray) ++ t128) ++ (⟨#[48, 48, 48, 48, 48, 48, 48, 55]⟩ : ByteArray)) 8 t132 t133 false _ ?side1 A6.out).mono ?_); (case side1 => first | exact hT | exact Tabs.below hT (by repeat (first | (with_reducible first | exact HB.out | apply below_alloc | apply pw_below_drewN | apply below_drew1) | exact HB.out)) | ((repeat (first | exact hT | apply Tabs.drewN | apply Tabs.drew)); done)); rintro e w38 ⟨rfl, hb⟩; refine ⟨_, rfl, ?_⟩; have n0_ := Aside0.mk (Kd.R_below (by (with_reducible repeat (first | apply Kd.R_alloc | apply Kd.R_drewN | apply Kd.R_drew)); exact HO127.out) hb); have n1_ := Aside0.mk (below_step (by repeat (first | (with_reducible first | exact HB.out | apply below_alloc | apply pw_below_drewN | apply below_drew1) | exact HB.out)) hb); clear HO127; clear HB; have HO127 := n0_; have HB := n1_; clear n0_ n1_; (try clear hb); (try clear hb2); (try clear hk); (try clear hi)) | ((with_reducible refine gate_callee (f := 12) rfl ?_); refine goesL_ (some 47) rfl rfl Tryd.func12 (by kernel_rfl) rfl #[.string ((((⟨#[88, 65, 66, 36]⟩ : ByteArray) ++ t128) ++ (⟨#[48, 48, 48, 48, 48, 48, 48, 55]⟩ : ByteArray)).extract 1 (4 + t128.size + 8)), .int .i64 7] rfl (by (try simp only [List.map_toArray, List.map_cons, List.map_nil]); first | done | rfl | (simp only [List.length_drop, List.length_take]; rfl)) ?_; (with_reducible refine (record_Read.calls k ((((⟨#[88, 65, 66, 36]⟩ : ByteArray) ++ t128) ++ (⟨#[48, 48, 48, 48, 48, 48, 48, 55]⟩ : ByteArray)).extract 1 (4 + t128.size + 8)) 7 t135 t136 false _ ?side1 A8.out).mono ?_); (case side1 => first | exact hT | exact Tabs.below hT (by repeat (first | (with_reducible first | exact HB.out | apply below_alloc | apply pw_below_drewN | apply below_drew1) | exact HB.out)) | ((repeat (first | exact hT | apply Tabs.drewN | apply Tabs.drew)); done)); rintro e w39 ⟨rfl, hb⟩; refine ⟨_, rfl, ?_⟩; have n0_ := Aside0.mk (Kd.R_below (by (with_reducible repeat (first | apply Kd.R_alloc | apply Kd.R_drewN | apply Kd.R_drew)); exact HO127.out) hb); have n1_ := Aside0.mk (below_step (by repeat (first | (with_reducible first | exact HB.out | apply below_alloc | apply pw_below_drewN | apply below_drew1) | exact HB.out)) hb); clear HO127; clear HB; have HO127 := n0_; have HB := n1_; clear n0_ n1_; (try clear hb); (try clear hb2); (try clear hk); (try clear hi)) | ((with_reducible refine gate_dst (N := 53) rfl ?_); (try (refine gate_guard (by rfl) ?_; dsimp only)); refine Kd.R_lit Kd.string _ 9 ?hg (N := 53) ?hd (xs := ([t130] : List ByteArray)) (inner := [.string t130]) (ok := fun _ => True) (okp := fun _ => True) ?hr ?hp (fun _ hk => hk) trivial (Below.refl _ _) (Nat.le_refl _) (by simp) ?_; (case hd => rfl); (case hg => rfl); (case hr => first | (go_simp; done) | (go_simp; rfl)); (case hp => exact (Reps.one (show Kd.M Kd.string _ _ _ t130 [.string t130] from rfl) (Reps.none _ _))); intro v139 w40 ho41 hb hg_ hnew_; clear hg_ hnew_; (first | rw [← Ny138.out] at ho41 | (simp only [Int.reduceToNat] at ho41; rw [← Ny138.out] at ho41)); have n0_ := Aside0.mk (Kd.R_elder' (by (with_reducible repeat (first | apply Kd.R_alloc | apply Kd.R_drewN | apply Kd.R_drew)); exact HO127.out) (Kd.R_base ho41) hb); have n1_ := Aside0.mk (Kd.R_lower (Kd.R_new' ho41 (Kd.R_lt (by (with_reducible repeat (first | apply Kd.R_alloc | apply Kd.R_drewN | apply Kd.R_drew)); exact HO127.out))) (below_size (by repeat (first | (with_reducible first | exact HB.out | apply below_alloc | apply pw_below_drewN | apply below_drew1) | exact HB.out)))); have n2_ := Aside0.mk (below_step (by repeat (first | (with_reducible first | exact HB.out | apply below_alloc | apply pw_below_drewN | apply below_drew1) | exact HB.out)) hb); clear HO127; clear HB; have HO127 := n0_; have HO140 := n1_; have HB := n2_; clear n0_ n1_ n2_; clear hb ho41; obtain ⟨Ao42, co42, eo42⟩ := Kd.R_slice HO140.out; subst eo42) | ((with_reducible refine gate_callee (f := 16) rfl ?_); refine goesL_ (some 54) rfl rfl Tryd.func16 (by kernel_rfl) rfl #[.slice Ao42 y138.length co42] rfl (by (try simp only [List.map_toArray, List.map_cons, List.map_nil]); first | done | rfl | (simp only [List.length_drop, List.length_take]; rfl)) ?_; (with_reducible refine (record_Get.calls _ _ y138 t141 true _ ?side1 ?side2 ?side3 A9.out).mono ?_); (case side1 => first | exact hT | exact Tabs.below hT (by repeat (first | (with_reducible first | exact HB.out | apply below_alloc | apply pw_below_drewN | apply below_drew1) | exact HB.out)) | ((repeat (first | exact hT | apply Tabs.drewN | apply Tabs.drew)); done)); (case side2 => repeat (first | exact (Kd.R_reads' HO140.out).2.2 | (with_reducible refine Kd.C_alloc ?_ _) | (with_reducible refine Kd.C_drewN ?_ _) | (with_reducible refine Kd.C_drew ?_))); (case side3 => exact (Kd.R_reads' HO140.out).2.1); rintro e w43 ⟨rfl, hb⟩; refine ⟨_, rfl, ?_⟩; have n0_ := Aside0.mk (Kd.R_below (by (with_reducible repeat (first | apply Kd.R_alloc | apply Kd.R_drewN | apply Kd.R_drew)); exact HO127.out) hb); have n1_ := Aside0.mk (Kd.R_below (by (with_reducible repeat (first | apply Kd.R_alloc | apply Kd.R_drewN | apply Kd.R_drew)); exact HO140.out) hb); have n2_ := Aside0.mk (below_step (by repeat (first | (with_reducible first | exact HB.out | apply below_alloc | apply pw_below_drewN | apply below_drew1) | exact HB.out)) hb); clear HO127; clear HO140; clear HB; have HO127 := n0_; have HO140 := n1_; have HB := n2_; clear n0_ n1_ n2_; (try clear hb); (try clear hb2); (try clear hk); (try clear hi)) | ((with_reducible refine gate_dst (N := 58) rfl ?_); (try (refine gate_guard (by rfl) ?_; dsimp only)); refine Kd.R_lit Kd.string _ 9 ?hg (N := 58) ?hd (xs := ([(⟨#[65, 66]⟩ : ByteArray)] : List ByteArray)) (inner := [.string (⟨#[65, 66]⟩ : ByteArray)]) (ok := fun _ => True) (okp := fun _ => True) ?hr ?hp (fun _ hk => hk) trivial (Below.refl _ _) (Nat.le_refl _) (by simp) ?_; (case hd => rfl); (case hg => rfl); (case hr => first | (go_simp; done) | (go_simp; rfl)); (case hp => exact (Reps.one (show Kd.M Kd.string _ _ _ (⟨#[65, 66]⟩ : ByteArray) [.string (⟨#[65, 66]⟩ : ByteArray)] from rfl) (Reps.none _ _))); intro v144 w44 ho45 hb hg_ hnew_; clear hg_ hnew_; (first | rw [← Ny143.out] at ho45 | (simp only [Int.reduceToNat] at ho45; rw [← Ny143.out] at ho45)); have n0_ := Aside0.mk (Kd.R_elder' (by (with_reducible repeat (first | apply Kd.R_alloc | apply Kd.R_drewN | apply Kd.R_drew)); exact HO127.out) (Kd.R_base ho45) hb); have n1_ := Aside0.mk (Kd.R_elder' (by (with_reducible repeat (first | apply Kd.R_alloc | apply Kd.R_drewN | apply Kd.R_drew)); exact HO140.out) (Kd.R_base ho45) hb); have n2_ := Aside0.mk (Kd.R_lower (Kd.R_new' (Kd.R_new' ho45 (Kd.R_lt (by (with_reducible repeat (first | apply Kd.R_alloc | apply Kd.R_drewN | apply Kd.R_drew)); exact HO127.out))) (Kd.R_lt (by (with_reducible repeat (first | apply Kd.R_alloc | apply Kd.R_drewN | apply Kd.R_drew)); exact HO140.out))) (below_size (by repeat (first | (with_reducible first | exact HB.out | apply below_alloc | apply pw_below_drewN | apply below_drew1) | exact HB.out)))); have n3_ := Aside0.mk (below_step (by repeat (first | (with_reducible first | exact HB.out | apply below_alloc | apply pw_below_drewN | apply below_drew1) | exact HB.out)) hb); clear HO127; clear HO140; clear HB; have HO127 := n0_; have HO140 := n1_; have HO145 := n2_; have HB := n3_; clear n0_ n1_ n2_ n3_; clear hb ho45; obtain ⟨Ao46, co46, eo46⟩ := Kd.R_slice HO145.out; subst eo46) | ((with_reducible refine gate_callee (f := 16) rfl ?_); refine goesL_ (some 59) rfl rfl Tryd.func16 (by kernel_rfl) rfl #[.slice Ao46 y143.length co46] rfl (by (try simp only [List.map_toArray, List.map_cons, List.map_nil]); first | done | rfl | (simp only [List.length_drop, List.length_take]; rfl)) ?_; (with_reducible refine (record_Get.calls _ _ y143 t146 false _ ?side1 ?side2 ?side3 A10.out).mono ?_); (case side1 => first | exact hT | exact Tabs.below hT (by repeat (first | (with_reducible first | exact HB.out | apply below_alloc | apply pw_below_drewN | apply below_drew1) | exact HB.out)) | ((repeat (first | exact hT | apply Tabs.drewN | apply Tabs.drew)); done)); (case side2 => repeat (first | exact (Kd.R_reads' HO145.out).2.2 | (with_reducible refine Kd.C_alloc ?_ _) | (with_reducible refine Kd.C_drewN ?_ _) | (with_reducible refine Kd.C_drew ?_))); (case side3 => exact (Kd.R_reads' HO145.out).2.1); rintro e w47 ⟨rfl, hb⟩; refine ⟨_, rfl, ?_⟩; have n0_ := Aside0.mk (Kd.R_below (by (with_reducible repeat (first | apply Kd.R_alloc | apply Kd.R_drewN | apply Kd.R_drew)); exact HO127.out) hb); have n1_ := Aside0.mk (Kd.R_below (by (with_reducible repeat (first | apply Kd.R_alloc | apply Kd.R_drewN | apply Kd.R_drew)); exact HO140.out) hb); have n2_ := Aside0.mk (Kd.R_below (by (with_reducible repeat (first | apply Kd.R_alloc | apply Kd.R_drewN | apply Kd.R_drew)); exact HO145.out) hb); have n3_ := Aside0.mk (below_step (by repeat (first | (with_reducible first | exact HB.out | apply below_alloc | apply pw_below_drewN | apply below_drew1) | exact HB.out)) hb); clear HO127; clear HO140; clear HO145; clear HB; have HO127 := n0_; have HO140 := n1_; have HO145 := n2_; have HB := n3_; clear n0_ n1_ n2_ n3_; (try clear hb); (try clear hb2); (try clear hk); (try clear hi)) | ((with_reducible refine gate_dst (N := 63) rfl ?_); (try (refine gate_guard (by rfl) ?_; dsimp only)); refine Kd.R_lit Kd.string _ 9 ?hg (N := 63) ?hd (xs := ([(⟨#[97, 32, 36]⟩ : ByteArray), (⟨#[36, 32, 32]⟩ : ByteArray), (⟨#[]⟩ : ByteArray)] : List ByteArray)) (inner := [.string (⟨#[97, 32, 36]⟩ : ByteArray), .string (⟨#[36, 32, 32]⟩ : ByteArray), .string (⟨#[]⟩ : ByteArray)]) (ok := fun _ => True) (okp := fun _ => True) ?hr ?hp (fun _ hk => hk) trivial (Below.refl _ _) (Nat.le_refl _) (by simp) ?_; (case hd => rfl); (case hg => rfl); (case hr => first | (go_simp; done) | (go_simp; rfl)); (case hp => exact (Reps.one (show Kd.M Kd.string _ _ _ (⟨#[97, 32, 36]⟩ : ByteArray) [.string (⟨#[97, 32, 36]⟩ : ByteArray)] from rfl) (Reps.one (show Kd.M Kd.string _ _ _ (⟨#[36, 32, 32]⟩ : ByteArray) [.string (⟨#[36, 32, 32]⟩ : ByteArray)] from rfl) (Reps.one (show Kd.M Kd.string _ _ _ (⟨#[]⟩ : ByteArray) [.string (⟨#[]⟩ : ByteArray)] from rfl) (Reps.none _ _))))); intro v149 w48 ho49 hb hg_ hnew_; clear hg_ hnew_; (first | rw [← Ny148.out] at ho49 | (simp only [Int.reduceToNat] at ho49; rw [← Ny148.out] at ho49)); have n0_ := Aside0.mk (Kd.R_elder' (by (with_reducible repeat (first | apply Kd.R_alloc | apply Kd.R_drewN | apply Kd.R_drew)); exact HO127.out) (Kd.R_base ho49) hb); have n1_ := Aside0.mk (Kd.R_elder' (by (with_reducible repeat (first | apply Kd.R_alloc | apply Kd.R_drewN | apply Kd.R_drew)); exact HO140.out) (Kd.R_base ho49) hb); have n2_ := Aside0.mk (Kd.R_elder' (by (with_reducible repeat (first | apply Kd.R_alloc | apply Kd.R_drewN | apply Kd.R_drew)); exact HO145.out) (Kd.R_base ho49) hb); have n3_ := Aside0.mk (Kd.R_lower (Kd.R_new' (Kd.R_new' (Kd.R_new' ho49 (Kd.R_lt (by (with_reducible repeat (first | apply Kd.R_alloc | apply Kd.R_drewN | apply Kd.R_drew)); exact HO127.out))) (Kd.R_lt (by (with_reducible repeat (first | apply Kd.R_alloc | apply Kd.R_drewN | apply Kd.R_drew)); exact HO140.out))) (Kd.R_lt (by (with_reducible repeat (first | apply Kd.R_alloc | apply Kd.R_drewN | apply Kd.R_drew)); exact HO145.out))) (below_size (by repeat (first | (with_reducible first | exact HB.out | apply below_alloc | apply pw_below_drewN | apply below_drew1) | exact HB.out)))); have n4_ := Aside0.mk (below_step (by repeat (first | (with_reducible first | exact HB.out | apply below_alloc | apply pw_below_drewN | apply below_drew1) | exact HB.out)) hb); clear HO127; clear HO140; clear HO145; clear HB; have HO127 := n0_; have HO140 := n1_; have HO145 := n2_; have HO150 := n3_; have HB := n4_; clear n0_ n1_ n2_ n3_ n4_; clear hb ho49; obtain ⟨Ao50, co50, eo50⟩ := Kd.R_slice HO150.out; subst eo50) | ((with_reducible refine gate_callee (f := 16) rfl ?_); refine goesL_ (some 64) rfl rfl Tryd.func16 (by kernel_rfl) rfl #[.slice Ao50 y148.length co50] rfl (by (try simp only [List.map_toArray, List.map_cons, List.map_nil]); first | done | rfl | (simp only [List.length_drop, List.length_take]; rfl)) ?_; (with_reducible refine (record_Get.calls _ _ y148 t151 true _ ?side1 ?side2 ?side3 A11.out).mono ?_); (case side1 => first | exact hT | exact Tabs.below hT (by repeat (first | (with_reducible first | exact HB.out | apply below_alloc | apply pw_below_drewN | apply below_drew1) | exact HB.out)) | ((repeat (first | exact hT | apply Tabs.drewN | apply Tabs.drew)); done)); (case side2 => repeat (first | exact (Kd.R_reads' HO150.out).2.2 | (with_reducible refine Kd.C_alloc ?_ _) | (with_reducible refine Kd.C_drewN ?_ _) | (with_reducible refine Kd.C_drew ?_))); (case side3 => exact (Kd.R_reads' HO150.out).2.1); rintro e w51 ⟨rfl, hb⟩; refine ⟨_, rfl, ?_⟩; have n0_ := Aside0.mk (Kd.R_below (by (with_reducible repeat (first | apply Kd.R_alloc | apply Kd.R_drewN | apply Kd.R_drew)); exact HO127.out) hb); have n1_ := Aside0.mk (Kd.R_below (by (with_reducible repeat (first | apply Kd.R_alloc | apply Kd.R_drewN | apply Kd.R_drew)); exact HO140.out) hb); have n2_ := Aside0.mk (Kd.R_below (by (with_reducible repeat (first | apply Kd.R_alloc | apply Kd.R_drewN | apply Kd.R_drew)); exact HO145.out) hb); have n3_ := Aside0.mk (Kd.R_below (by (with_reducible repeat (first | apply Kd.R_alloc | apply Kd.R_drewN | apply Kd.R_drew)); exact HO150.out) hb); have n4_ := Aside0.mk (below_step (by repeat (first | (with_reducible first | exact HB.out | apply below_alloc | apply pw_below_drewN | apply below_drew1) | exact HB.out)) hb); clear HO127; clear HO140; clear HO145; clear HO150; clear HB; have HO127 := n0_; have HO140 := n1_; have HO145 := n2_; have HO150 := n3_; have HB := n4_; clear n0_ n1_ n2_ n3_ n4_; (try clear hb); (try clear hb2); (try clear hk); (try clear hi)) | ((with_reducible refine gate_callee (f := 10) rfl ?_); refine goesL_ (some 68) rfl rfl Tryd.func10 (by kernel_rfl) rfl #[.int .u8 89, .string (⟨#[]⟩ : ByteArray), .int .i64 0] rfl (by (try simp only [List.map_toArray, List.map_cons, List.map_nil]); first | done | rfl | (simp only [List.length_drop, List.length_take]; rfl)) ?_; (with_reducible refine (record_Line.calls 89 (⟨#[]⟩ : ByteArray) 0 t153 false _ ?side1 A12.out).mono ?_); (case side1 => first | exact hT | exact Tabs.below hT (by repeat (first | (with_reducible first | exact HB.out | apply below_alloc | apply pw_below_drewN | apply below_drew1) | exact HB.out)) | ((repeat (first | exact hT | apply Tabs.drewN | apply Tabs.drew)); done)); rintro e w52 ⟨rfl, hb⟩; refine ⟨_, rfl, ?_⟩; have n0_ := Aside0.mk (Kd.R_below (by (with_reducible repeat (first | apply Kd.R_alloc | apply Kd.R_drewN | apply Kd.R_drew)); exact HO127.out) hb); have n1_ := Aside0.mk (Kd.R_below (by (with_reducible repeat (first | apply Kd.R_alloc | apply Kd.R_drewN | apply Kd.R_drew)); exact HO140.out) hb); have n2_ := Aside0.mk (Kd.R_below (by (with_reducible repeat (first | apply Kd.R_alloc | apply Kd.R_drewN | apply Kd.R_drew)); exact HO145.out) hb); have n3_ := Aside0.mk (Kd.R_below (by (with_reducible repeat (first | apply Kd.R_alloc | apply Kd.R_drewN | apply Kd.R_drew)); exact HO150.out) hb); have n4_ := Aside0.mk (below_step (by repeat (first | (with_reducible first | exact HB.out | apply below_alloc | apply pw_below_drewN | apply below_drew1) | exact HB.out)) hb); clear HO127; clear HO140; clear HO145; clear HO150; clear HB; have HO127 := n0_; have HO140 := n1_; have HO145 := n2_; have HO150 := n3_; have HB := n4_; clear n0_ n1_ n2_ n3_ n4_; (try clear hb); (try clear hb2); (try clear hk); (try clear hi)) | ((with_reducible refine gate_callee (f := 10) rfl ?_); refine goesL_ (some 72) rfl rfl Tryd.func10 (by kernel_rfl) rfl #[.int .u8 42, .string (⟨#[99]⟩ : ByteArray), .int .i64 123456789] rfl (by (try simp only [List.map_toArray, List.map_cons, List.map_nil]); first | done | rfl | (simp only [List.length_drop, List.length_take]; rfl)) ?_; (with_reducible refine (record_Line.calls 42 (⟨#[99]⟩ : ByteArray) 123456789 t155 true _ ?side1 A13.out).mono ?_); (case side1 => first | exact hT | exact Tabs.below hT (by repeat (first | (with_reducible first | exact HB.out | apply below_alloc | apply pw_below_drewN | apply below_drew1) | exact HB.out)) | ((repeat (first | exact hT | apply Tabs.drewN | apply Tabs.drew)); done)); rintro e w53 ⟨rfl, hb⟩; refine ⟨_, rfl, ?_⟩; have n0_ := Aside0.mk (Kd.R_below (by (with_reducible repeat (first | apply Kd.R_alloc | apply Kd.R_drewN | apply Kd.R_drew)); exact HO127.out) hb); have n1_ := Aside0.mk (Kd.R_below (by (with_reducible repeat (first | apply Kd.R_alloc | apply Kd.R_drewN | apply Kd.R_drew)); exact HO140.out) hb); have n2_ := Aside0.mk (Kd.R_below (by (with_reducible repeat (first | apply Kd.R_alloc | apply Kd.R_drewN | apply Kd.R_drew)); exact HO145.out) hb); have n3_ := Aside0.mk (Kd.R_below (by (with_reducible repeat (first | apply Kd.R_alloc | apply Kd.R_drewN | apply Kd.R_drew)); exact HO150.out) hb); have n4_ := Aside0.mk (below_step (by repeat (first | (with_reducible first | exact HB.out | apply below_alloc | apply pw_below_drewN | apply below_drew1) | exact HB.out)) hb); clear HO127; clear HO140; clear HO145; clear HO150; clear HB; have HO127 := n0_; have HO140 := n1_; have HO145 := n2_; have HO150 := n3_; have HB := n4_; clear n0_ n1_ n2_ n3_ n4_; (try clear hb); (try clear hb2); (try clear hk); (try clear hi)) | ((with_reducible refine gate_callee (f := 14) rfl ?_); refine goesL_ (some 76) rfl rfl Tryd.func14 (by kernel_rfl) rfl #[.string (⟨#[10]⟩ : ByteArray), .int .i64 0] rfl (by (try simp only [List.map_toArray, List.map_cons, List.map_nil]); first | done | rfl | (simp only [List.length_drop, List.length_take]; rfl)) ?_; (with_reducible refine (record_Put.calls k (⟨#[10]⟩ : ByteArray) 0 t157 t158 _ ?side1 A14.out).mono ?_); (case side1 => first | exact hT | exact Tabs.below hT (by repeat (first | (with_reducible first | exact HB.out | apply below_alloc | apply pw_below_drewN | apply below_drew1) | exact HB.out)) | ((repeat (first | exact hT | apply Tabs.drewN | apply Tabs.drew)); done)); rintro e w54 ⟨v159, rfl, ho0, hb⟩; refine ⟨_, rfl, ?_⟩; have n0_ := Aside0.mk (Kd.R_elder' (by (with_reducible repeat (first | apply Kd.R_alloc | apply Kd.R_drewN | apply Kd.R_drew)); exact HO127.out) (Kd.R_base ho0) hb); have n1_ := Aside0.mk (Kd.R_elder' (by (with_reducible repeat (first | apply Kd.R_alloc | apply Kd.R_drewN | apply Kd.R_drew)); exact HO140.out) (Kd.R_base ho0) hb); have n2_ := Aside0.mk (Kd.R_elder' (by (with_reducible repeat (first | apply Kd.R_alloc | apply Kd.R_drewN | apply Kd.R_drew)); exact HO145.out) (Kd.R_base ho0) hb); have n3_ := Aside0.mk (Kd.R_elder' (by (with_reducible repeat (first | apply Kd.R_alloc | apply Kd.R_drewN | apply Kd.R_drew)); exact HO150.out) (Kd.R_base ho0) hb); have n4_ := Aside0.mk (Kd.R_lower (Kd.R_new' (Kd.R_new' (Kd.R_new' (Kd.R_new' ho0 (Kd.R_lt (by (with_reducible repeat (first | apply Kd.R_alloc | apply Kd.R_drewN | apply Kd.R_drew)); exact HO127.out))) (Kd.R_lt (by (with_reducible repeat (first | apply Kd.R_alloc | apply Kd.R_drewN | apply Kd.R_drew)); exact HO140.out))) (Kd.R_lt (by (with_reducible repeat (first | apply Kd.R_alloc | apply Kd.R_drewN | apply Kd.R_drew)); exact HO145.out))) (Kd.R_lt (by (with_reducible repeat (first | apply Kd.R_alloc | apply Kd.R_drewN | apply Kd.R_drew)); exact HO150.out))) (below_size (by repeat (first | (with_reducible first | exact HB.out | apply below_alloc | apply pw_below_drewN | apply below_drew1) | exact HB.out)))); have n5_ := Aside0.mk (below_step (by repeat (first | (with_reducible first | exact HB.out | apply below_alloc | apply pw_below_drewN | apply below_drew1) | exact HB.out)) hb); clear HO127; clear HO140; clear HO145; clear HO150; clear HB; have HO127 := n0_; have HO140 := n1_; have HO145 := n2_; have HO150 := n3_; have HO160 := n4_; have HB := n5_; clear n0_ n1_ n2_ n3_ n4_ n5_; (try clear hb); (try clear hb2); (try clear hk); (try clear hi); (try clear ho0)) | ((with_reducible refine gate_dst (N := 83) rfl ?_); (try (refine gate_guard (by rfl) ?_; dsimp only)); refine Kd.R_lit Kd.string _ 9 ?hg (N := 83) ?hd (xs := ([((⟨#[88, 65, 66, 36]⟩ : ByteArray) ++ t128) ++ (⟨#[48, 48, 48, 48, 48, 48, 48, 55]⟩ : ByteArray)] : List ByteArray)) (inner := [.string (((⟨#[88, 65, 66, 36]⟩ : ByteArray) ++ t128) ++ (⟨#[48, 48, 48, 48, 48, 48, 48, 55]⟩ : ByteArray))]) (ok := fun _ => True) (okp := fun _ => True) ?hr ?hp (fun _ hk => hk) trivial (Below.refl _ _) (Nat.le_refl _) (by simp) ?_; (case hd => rfl); (case hg => rfl); (case hr => first | (go_simp; done) | (go_simp; rfl)); (case hp => exact (Reps.one (show Kd.M Kd.string _ _ _ (((⟨#[88, 65, 66, 36]⟩ : ByteArray) ++ t128) ++ (⟨#[48, 48, 48, 48, 48, 48, 48, 55]⟩ : ByteArray)) [.string (((⟨#[88, 65, 66, 36]⟩ : ByteArray) ++ t128) ++ (⟨#[48, 48, 48, 48, 48, 48, 48, 55]⟩ : ByteArray))] from rfl) (Reps.none _ _))); intro v162 w55 ho56 hb hg_ hnew_; clear hg_ hnew_; (first | rw [← Ny161.out] at ho56 | (simp only [Int.reduceToNat] at ho56; rw [← Ny161.out] at ho56)); have n0_ := Aside0.mk (Kd.R_elder' (by (with_reducible repeat (first | apply Kd.R_alloc | apply Kd.R_drewN | apply Kd.R_drew)); exact HO127.out) (Kd.R_base ho56) hb); have n1_ := Aside0.mk (Kd.R_elder' (by (with_reducible repeat (first | apply Kd.R_alloc | apply Kd.R_drewN | apply Kd.R_drew)); exact HO140.out) (Kd.R_base ho56) hb); have n2_ := Aside0.mk (Kd.R_elder' (by (with_reducible repeat (first | apply Kd.R_alloc | apply Kd.R_drewN | apply Kd.R_drew)); exact HO145.out) (Kd.R_base ho56) hb); have n3_ := Aside0.mk (Kd.R_elder' (by (with_reducible repeat (first | apply Kd.R_alloc | apply Kd.R_drewN | apply Kd.R_drew)); exact HO150.out) (Kd.R_base ho56) hb); have n4_ := Aside0.mk (Kd.R_elder' (by (with_reducible repeat (first | apply Kd.R_alloc | apply Kd.R_drewN | apply Kd.R_drew)); exact HO160.out) (Kd.R_base ho56) hb); have n5_ := Aside0.mk (Kd.R_lower (Kd.R_new' (Kd.R_new' (Kd.R_new' (Kd.R_new' (Kd.R_new' ho56 (Kd.R_lt (by (with_reducible repeat (first | apply Kd.R_alloc | apply Kd.R_drewN | apply Kd.R_drew)); exact HO127.out))) (Kd.R_lt (by (with_reducible repeat (first | apply Kd.R_alloc | apply Kd.R_drewN | apply Kd.R_drew)); exact HO140.out))) (Kd.R_lt (by (with_reducible repeat (first | apply Kd.R_alloc | apply Kd.R_drewN | apply Kd.R_drew)); exact HO145.out))) (Kd.R_lt (by (with_reducible repeat (first | apply Kd.R_alloc | apply Kd.R_drewN | apply Kd.R_drew)); exact HO150.out))) (Kd.R_lt (by (with_reducible repeat (first | apply Kd.R_alloc | apply Kd.R_drewN | apply Kd.R_drew)); exact HO160.out))) (below_size (by repeat (first | (with_reducible first | exact HB.out | apply below_alloc | apply pw_below_drewN | apply below_drew1) | exact HB.out)))); have n6_ := Aside0.mk (below_step (by repeat (first | (with_reducible first | exact HB.out | apply below_alloc | apply pw_below_drewN | apply below_drew1) | exact HB.out)) hb); clear HO127; clear HO140; clear HO145; clear HO150; clear HO160; clear HB; have HO127 := n0_; have HO140 := n1_; have HO145 := n2_; have HO150 := n3_; have HO160 := n4_; have HO163 := n5_; have HB := n6_; clear n0_ n1_ n2_ n3_ n4_ n5_ n6_; clear hb ho56; obtain ⟨Ao57, co57, eo57⟩ := Kd.R_slice HO127.out; subst eo57; obtain ⟨Ao58, co58, eo58⟩ := Kd.R_slice HO163.out; subst eo58) | (go_at_call 18; obtain ⟨Ao57, co57, eo57⟩ := Kd.R_slice HO127.out; subst eo57; obtain rfl := Ny161.out; (refine (deckleref16_Same.calls k _ _ t124 _ _ _ true _ ?side1 ?side2 ?side3 ?side4 ?side5 A16.out).mono ?_); (case side1 => first | exact hT | exact Tabs.below hT (by repeat (first | (with_reducible first | exact HB.out | apply below_alloc | apply pw_below_drewN | apply below_drew1) | exact HB.out)) | ((repeat (first | exact hT | apply Tabs.drewN | apply Tabs.drew)); done)); (case side2 => repeat (first | exact (Kd.R_reads' HO127.out).2.2 | (with_reducible refine Kd.C_alloc ?_ _) | (with_reducible refine Kd.C_drewN ?_ _) | (with_reducible refine Kd.C_drew ?_))); (case side3 => exact (Kd.R_reads' HO127.out).2.1); (case side4 => exact C_lits _ _ _ _ rfl (by simp)); (case side5 => simp); rintro e w' ⟨rfl, ⟨nd, rfl⟩⟩) | (go_at_call 18; (with_reducible refine (deckleref16_Same.calls k _ _ t124 _ _ y161 true _ ?side1 ?side2 ?side3 ?side4 ?side5 A16.out).mono ?_); (case side1 => first | exact hT | exact Tabs.below hT (by repeat (first | (with_reducible first | exact HB.out | apply below_alloc | apply pw_below_drewN | apply below_drew1) | exact HB.out)) | ((repeat (first | exact hT | apply Tabs.drewN | apply Tabs.drew)); done)); (case side2 => repeat (first | exact (Kd.R_reads' HO127.out).2.2 | (with_reducible refine Kd.C_alloc ?_ _) | (with_reducible refine Kd.C_drewN ?_ _) | (with_reducible refine Kd.C_drew ?_))); (case side3 => exact (Kd.R_reads' HO127.out).2.1); (case side4 => repeat (first | exact (Kd.R_reads' HO163.out).2.2 | (with_reducible refine Kd.C_alloc ?_ _) | (with_reducible refine Kd.C_drewN ?_ _) | (with_reducible refine Kd.C_drew ?_))); (case side5 => exact (Kd.R_reads' HO163.out).2.1); rintro e w' ⟨rfl, ⟨nd, rfl⟩⟩) | (go_at_call 19; (with_reducible refine (decklelaw20_spaces.calls k 68 t165 _ ?side1 A19.out).mono ?_); (case side1 => first | exact hT | exact Tabs.below hT (by repeat (first | (with_reducible first | exact HB.out | apply below_alloc | apply pw_below_drewN | apply below_drew1) | exact HB.out)) | ((repeat (first | exact hT | apply Tabs.drewN | apply Tabs.drew)); done)); rintro e w' ⟨rfl, ⟨nd, rfl⟩⟩) | (go_at_call 19; (with_reducible refine (decklelaw20_spaces.calls k 70 t166 _ ?side1 A31.out).mono ?_); (case side1 => first | exact hT | exact Tabs.below hT (by repeat (first | (with_reducible first | exact HB.out | apply below_alloc | apply pw_below_drewN | apply below_drew1) | exact HB.out)) | ((repeat (first | exact hT | apply Tabs.drewN | apply Tabs.drew)); done)); rintro e w' ⟨rfl, ⟨nd, rfl⟩⟩))
                                            go_ret
                                            exact ⟨by first | rfl | (simp [errW_none, errW_some] <;> rfl) | (simp [*, errW_none, errW_some] <;> rfl) | (simp [errW_none, errW_some, bne_nil_, beq_nil_]; done) | (simp [*, errW_none, errW_some, bne_nil_, beq_nil_]; done), by repeat (first | (with_reducible first | exact HB.out | apply below_alloc | apply pw_below_drewN | apply below_drew1) | exact HB.out)⟩
                                          · replace c35 := Bool.eq_false_iff.mpr c35
                                            subst c35
                                            rw [if_neg (show ¬ (false = true) by decide)] at H
                                            exact absurd (Option.some.inj H) (by rw [hr]; decide)
                                        · rw [if_neg c34] at H
                                          have c34b0 : (t155.toList == (((⟨#[42, 99]⟩ : ByteArray) ++ t166) ++ (⟨#[50, 51, 52, 53, 54, 55, 56, 57]⟩ : ByteArray)).toList) = false := beq_eq_false_iff_ne.mpr c34
                                          have c34b1 : (t155.toList != (((⟨#[42, 99]⟩ : ByteArray) ++ t166) ++ (⟨#[50, 51, 52, 53, 54, 55, 56, 57]⟩ : ByteArray)).toList) = true := bne_iff_ne.mpr c34
                                          exact absurd (Option.some.inj H) (by rw [hr]; decide)
                                      · rw [if_neg c33] at H
                                        exact absurd H (by simp)
                                    · rw [if_neg c32] at H
                                      exact absurd H (by simp)
                                · replace c29 := Bool.eq_false_iff.mpr c29
                                  subst c29
                                  rw [if_neg (show ¬ (false = true) by decide)] at H
                                  exact absurd (Option.some.inj H) (by rw [hr]; decide)
                              · rw [if_neg c28] at H
                                have c28b0 : (t151.toList == ([97, 32, 36] : List UInt8)) = false := beq_eq_false_iff_ne.mpr c28
                                have c28b1 : (t151.toList != ([97, 32, 36] : List UInt8)) = true := bne_iff_ne.mpr c28
                                exact absurd (Option.some.inj H) (by rw [hr]; decide)
                          · replace c26 := Bool.eq_false_iff.mpr c26
                            subst c26
                            rw [if_neg (show ¬ (false = true) by decide)] at H
                            exact absurd (Option.some.inj H) (by rw [hr]; decide)
                        · rw [if_neg c25] at H
                          have c25b0 : (t141.toList == ([65, 66] : List UInt8)) = false := beq_eq_false_iff_ne.mpr c25
                          have c25b1 : (t141.toList != ([65, 66] : List UInt8)) = true := bne_iff_ne.mpr c25
                          exact absurd (Option.some.inj H) (by rw [hr]; decide)
                  · replace c22 := Bool.eq_false_iff.mpr c22
                    subst c22
                    rw [if_neg (show ¬ (false = true) by decide)] at H
                    exact absurd (Option.some.inj H) (by rw [hr]; decide)
                · rw [if_neg c21] at H
                  have c21b0 : (t130.toList == ((⟨#[65, 66, 36]⟩ : ByteArray) ++ t165).toList) = false := beq_eq_false_iff_ne.mpr c21
                  have c21b1 : (t130.toList != ((⟨#[65, 66, 36]⟩ : ByteArray) ++ t165).toList) = true := bne_iff_ne.mpr c21
                  exact absurd (Option.some.inj H) (by rw [hr]; decide)
              · rw [if_neg c20] at H
                exact absurd H (by simp)
            · rw [if_neg c18] at H
              have c18b0 : (t129 == 88) = false := beq_eq_false_iff_ne.mpr c18
              have c18b1 : (t129 != 88) = true := bne_iff_ne.mpr c18
              exact absurd (Option.some.inj H) (by rw [hr]; decide)
          · replace c17 := Bool.eq_false_iff.mpr c17
            subst c17
            rw [if_neg (show ¬ (false = true) by decide)] at H
            exact absurd (Option.some.inj H) (by rw [hr]; decide)
        · replace c15 := Bool.eq_false_iff.mpr c15
          subst c15
          rw [if_neg (show ¬ (false = true) by decide)] at H
          exact absurd (Option.some.inj H) (by rw [hr]; decide)
      · rw [if_neg c7] at H
        exact absurd H (by simp)
    · rw [if_neg c4] at H
      exact absurd H (by simp)
  · rw [if_neg c3] at H
    exact absurd H (by simp)

def decklelaw20_small.f (k : Nat) : Option Bool := (decklelaw20_small_t.f k).bind fun b => if b = true then some true else none
theorem decklelaw20_small.mono : ∀ k, LeO (decklelaw20_small.f k) (decklelaw20_small.f (k + 1)) := fun k => LeO.bind (decklelaw20_small_t.mono k) (fun _ => LeO.refl _)
theorem decklelaw20_small.calls (k : Nat) (r : Bool) (w : World) (hT : Tabs w) (h : decklelaw20_small.f k = some r) :
    Calls Tryd.prog 8 #[] w fun e w' => e = .returned (.bool r) ∧ Below w.heap.size w w' := by
  obtain ⟨b, hb, hi⟩ := Option.bind_eq_some_iff.mp h
  cases b with
  | false => exact absurd hi (by simp)
  | true =>
    obtain rfl : true = r := by simpa using hi
    exact decklelaw20_small_t.calls k true w hT rfl hb

end Go.Proofs.YtempfafkfkcelaaDoor.All
