-- Written for this claim by wip/tools/gprint.py out of the translation (it drives the kit's print). Lean checks it.
import Derived.Test.YtnpkjakkjfjikaaDoorAll0
import Derived.Test.YtnpkjakkjfjikaaDoorAll1
import Derived.Test.YtnpkjakkjfjikaaDoorAll2
import Derived.Test.YtnpkjakkjfjikaaDoorAll4
import Derived.Test.YtnpkjakkjfjikaaDoorAll6
import Derived.Test.YtnpkjakkjfjikaaDoorAll7
namespace Go.Proofs.YtnpkjakkjfjikaaDoor.All
open Go.RowKit Go.Proofs.YtnpkjakkjfjikaaDoorW.PrintWords Go.Proofs.YtnpkjakkjfjikaaDoorW.PrintLast Go.Proofs.YtnpkjakkjfjikaaDoorW.PrintMore Go.Proofs.YtnpkjakkjfjikaaDoor.G
attribute [local go_sem] max2_int min2_int max_two min_two max_three min_three max_four min_four str_leq str_gtr str_geq   -- for this text's walks alone
set_option linter.unusedVariables false
set_option linter.unusedSimpArgs false

attribute [local go_sem high] eqA23
/-! ### decklelaw06_DecimalOrder_t: function 6 -/
mutual
def decklelaw06_DecimalOrder_t.j0 : Nat → Int → Int → Bool → Int → Bool → Int → Int → Int → Int → Option (Bool)
  | 0, _, _, _, _, _, _, _, _, _ => none
  | k + 1, x3, x4, x11, x12, x67, x316000, x316001, x317000, x317001 => if x67 = true then (some false) else (if x3 < x4 then (decklelaw06_DecimalOrder_t.j1 k x3 x4 x11 x12 (-1) x316000 x316001 x317000 x317001) else (decklelaw06_DecimalOrder_t.j1 k x3 x4 x11 x12 0 x316000 x316001 x317000 x317001))
def decklelaw06_DecimalOrder_t.j1 : Nat → Int → Int → Bool → Int → Int → Int → Int → Int → Int → Option (Bool)
  | 0, _, _, _, _, _, _, _, _, _ => none
  | k + 1, x3, x4, x11, x12, x15, x316000, x316001, x317000, x317001 => if x3 > x4 then (decklelaw06_DecimalOrder_t.j2 k x3 x4 x11 x12 1 x316000 x316001 x317000 x317001) else (decklelaw06_DecimalOrder_t.j2 k x3 x4 x11 x12 x15 x316000 x316001 x317000 x317001)
def decklelaw06_DecimalOrder_t.j2 : Nat → Int → Int → Bool → Int → Int → Int → Int → Int → Int → Option (Bool)
  | 0, _, _, _, _, _, _, _, _, _ => none
  | k + 1, x3, x4, x11, x12, x15, x316000, x316001, x317000, x317001 => (decimal_Of.f k x3).bind fun bt323 => ((decimal_Of.f k x4).bind fun bt325 => ((decimal_Compare.f k bt323.1 bt323.2 bt325.1 bt325.2).bind fun t327 => (if t327 = x15 then ((decimal_Right.f k x316000 x316001).bind fun t328 => (if t328 = true then ((decimal_Right.f k x317000 x317001).bind fun t329 => (if t329 = true then (if x316000 > (-9223372036854775808) then (decklelaw06_DecimalOrder_t.j3 k x11 x12 (decide (x317000 > (-9223372036854775808))) x316000 x316001 x317000 x317001) else (decklelaw06_DecimalOrder_t.j3 k x11 x12 false x316000 x316001 x317000 x317001)) else (decklelaw06_DecimalOrder_t.j3 k x11 x12 false x316000 x316001 x317000 x317001))) else (decklelaw06_DecimalOrder_t.j3 k x11 x12 false x316000 x316001 x317000 x317001))) else (some false))))
def decklelaw06_DecimalOrder_t.j3 : Nat → Bool → Int → Bool → Int → Int → Int → Int → Option (Bool)
  | 0, _, _, _, _, _, _, _ => none
  | k + 1, x11, x12, x96, x316000, x316001, x317000, x317001 => if x96 = true then (if x11 = true then (if ((x12 == 0) == (x316000 == x317000 && (x316001 == x317001))) = true then ((decimal_Compare.f k (wrap64 (-x316000)) x316001 (wrap64 (-x317000)) x317001).bind fun t330 => (decklelaw06_DecimalOrder_t.j4 k (t330 == (wrap64 (-x12))))) else (decklelaw06_DecimalOrder_t.j4 k false)) else (decklelaw06_DecimalOrder_t.j4 k false)) else (some x11)
def decklelaw06_DecimalOrder_t.j4 : Nat → Bool → Option (Bool)
  | 0, _ => none
  | k + 1, x10 => some x10
end
def decklelaw06_DecimalOrder_t.f (k : Nat) (a0_0 : Int) (a0_1 : Int) (a1_0 : Int) (a1_1 : Int) (a2_0 : Int) (a2_1 : Int) (a3 : Int) (a4 : Int) : Option (Bool) := (decklelaw06_small.f k).bind fun t318 => ((decimal_Compare.f k a0_0 a0_1 a1_0 a1_1).bind fun t319 => ((decimal_Compare.f k a1_0 a1_1 a2_0 a2_1).bind fun t320 => ((decimal_Compare.f k a0_0 a0_1 a2_0 a2_1).bind fun t321 => ((decimal_Compare.f k a1_0 a1_1 a0_0 a0_1).bind fun t322 => (if t319 = (wrap64 (-t322)) then (if t319 < (-1) then (decklelaw06_DecimalOrder_t.j0 k a3 a4 t318 t319 true a0_0 a0_1 a1_0 a1_1) else (if t319 > 1 then (decklelaw06_DecimalOrder_t.j0 k a3 a4 t318 t319 true a0_0 a0_1 a1_0 a1_1) else (if t319 = t320 then (if t321 = t319 then (if t319 = 0 then (if t321 = t320 then (if t320 = 0 then (decklelaw06_DecimalOrder_t.j0 k a3 a4 t318 t319 (t321 != t319) a0_0 a0_1 a1_0 a1_1) else (decklelaw06_DecimalOrder_t.j0 k a3 a4 t318 t319 false a0_0 a0_1 a1_0 a1_1)) else (decklelaw06_DecimalOrder_t.j0 k a3 a4 t318 t319 true a0_0 a0_1 a1_0 a1_1)) else (if t320 = 0 then (decklelaw06_DecimalOrder_t.j0 k a3 a4 t318 t319 (t321 != t319) a0_0 a0_1 a1_0 a1_1) else (decklelaw06_DecimalOrder_t.j0 k a3 a4 t318 t319 false a0_0 a0_1 a1_0 a1_1))) else (decklelaw06_DecimalOrder_t.j0 k a3 a4 t318 t319 true a0_0 a0_1 a1_0 a1_1)) else (if t319 = 0 then (if t321 = t320 then (if t320 = 0 then (decklelaw06_DecimalOrder_t.j0 k a3 a4 t318 t319 (t321 != t319) a0_0 a0_1 a1_0 a1_1) else (decklelaw06_DecimalOrder_t.j0 k a3 a4 t318 t319 false a0_0 a0_1 a1_0 a1_1)) else (decklelaw06_DecimalOrder_t.j0 k a3 a4 t318 t319 true a0_0 a0_1 a1_0 a1_1)) else (if t320 = 0 then (decklelaw06_DecimalOrder_t.j0 k a3 a4 t318 t319 (t321 != t319) a0_0 a0_1 a1_0 a1_1) else (decklelaw06_DecimalOrder_t.j0 k a3 a4 t318 t319 false a0_0 a0_1 a1_0 a1_1)))))) else (decklelaw06_DecimalOrder_t.j0 k a3 a4 t318 t319 true a0_0 a0_1 a1_0 a1_1))))))
theorem decklelaw06_DecimalOrder_t.mono_l : ∀ k, (∀ y0 y1 y2 y3 y4 y5 y6 y7 y8, LeO (decklelaw06_DecimalOrder_t.j0 k y0 y1 y2 y3 y4 y5 y6 y7 y8) (decklelaw06_DecimalOrder_t.j0 (k + 1) y0 y1 y2 y3 y4 y5 y6 y7 y8)) ∧ (∀ y0 y1 y2 y3 y4 y5 y6 y7 y8, LeO (decklelaw06_DecimalOrder_t.j1 k y0 y1 y2 y3 y4 y5 y6 y7 y8) (decklelaw06_DecimalOrder_t.j1 (k + 1) y0 y1 y2 y3 y4 y5 y6 y7 y8)) ∧ (∀ y0 y1 y2 y3 y4 y5 y6 y7 y8, LeO (decklelaw06_DecimalOrder_t.j2 k y0 y1 y2 y3 y4 y5 y6 y7 y8) (decklelaw06_DecimalOrder_t.j2 (k + 1) y0 y1 y2 y3 y4 y5 y6 y7 y8)) ∧ (∀ y0 y1 y2 y3 y4 y5 y6, LeO (decklelaw06_DecimalOrder_t.j3 k y0 y1 y2 y3 y4 y5 y6) (decklelaw06_DecimalOrder_t.j3 (k + 1) y0 y1 y2 y3 y4 y5 y6)) ∧ (∀ y0, LeO (decklelaw06_DecimalOrder_t.j4 k y0) (decklelaw06_DecimalOrder_t.j4 (k + 1) y0))
  | 0 => ⟨fun _ _ _ _ _ _ _ _ _ r h => by simp [decklelaw06_DecimalOrder_t.j0] at h, fun _ _ _ _ _ _ _ _ _ r h => by simp [decklelaw06_DecimalOrder_t.j1] at h, fun _ _ _ _ _ _ _ _ _ r h => by simp [decklelaw06_DecimalOrder_t.j2] at h, fun _ _ _ _ _ _ _ r h => by simp [decklelaw06_DecimalOrder_t.j3] at h, fun _ r h => by simp [decklelaw06_DecimalOrder_t.j4] at h⟩
  | k + 1 => by
    obtain ⟨ih0, ih1, ih2, ih3, ih4⟩ := decklelaw06_DecimalOrder_t.mono_l k
    refine ⟨?_, ?_, ?_, ?_, ?_⟩
    · intro y0 y1 y2 y3 y4 y5 y6 y7 y8
      unfold decklelaw06_DecimalOrder_t.j0
      repeat' first
      | (with_reducible exact ih0 _ _ _ _ _ _ _ _ _)
      | (with_reducible exact ih1 _ _ _ _ _ _ _ _ _)
      | (with_reducible exact ih2 _ _ _ _ _ _ _ _ _)
      | (with_reducible exact ih3 _ _ _ _ _ _ _)
      | (with_reducible exact ih4 _)
      | (with_reducible exact decimal_Compare.mono _ _ _ _ _)
      | (with_reducible exact decimal_Of.mono _ _)
      | (with_reducible exact decimal_Right.mono _ _ _)
      | (with_reducible exact decklelaw06_small.mono _)
      | (with_reducible exact LeO.refl _)
      | (with_reducible exact LeO.none _)
      | (with_reducible refine LeO.ite ?_ ?_)
      | (with_reducible refine LeO.bind ?_ (fun _ => ?_))
      | exact ih0 _ _ _ _ _ _ _ _ _
      | exact ih1 _ _ _ _ _ _ _ _ _
      | exact ih2 _ _ _ _ _ _ _ _ _
      | exact ih3 _ _ _ _ _ _ _
      | exact ih4 _
      | exact decimal_Compare.mono _ _ _ _ _
      | exact decimal_Of.mono _ _
      | exact decimal_Right.mono _ _ _
      | exact decklelaw06_small.mono _
      | exact LeO.none _
      | refine LeO.ite ?_ ?_
      | refine LeO.bind ?_ (fun _ => ?_)
    · intro y0 y1 y2 y3 y4 y5 y6 y7 y8
      unfold decklelaw06_DecimalOrder_t.j1
      repeat' first
      | (with_reducible exact ih0 _ _ _ _ _ _ _ _ _)
      | (with_reducible exact ih1 _ _ _ _ _ _ _ _ _)
      | (with_reducible exact ih2 _ _ _ _ _ _ _ _ _)
      | (with_reducible exact ih3 _ _ _ _ _ _ _)
      | (with_reducible exact ih4 _)
      | (with_reducible exact decimal_Compare.mono _ _ _ _ _)
      | (with_reducible exact decimal_Of.mono _ _)
      | (with_reducible exact decimal_Right.mono _ _ _)
      | (with_reducible exact decklelaw06_small.mono _)
      | (with_reducible exact LeO.refl _)
      | (with_reducible exact LeO.none _)
      | (with_reducible refine LeO.ite ?_ ?_)
      | (with_reducible refine LeO.bind ?_ (fun _ => ?_))
      | exact ih0 _ _ _ _ _ _ _ _ _
      | exact ih1 _ _ _ _ _ _ _ _ _
      | exact ih2 _ _ _ _ _ _ _ _ _
      | exact ih3 _ _ _ _ _ _ _
      | exact ih4 _
      | exact decimal_Compare.mono _ _ _ _ _
      | exact decimal_Of.mono _ _
      | exact decimal_Right.mono _ _ _
      | exact decklelaw06_small.mono _
      | exact LeO.none _
      | refine LeO.ite ?_ ?_
      | refine LeO.bind ?_ (fun _ => ?_)
    · intro y0 y1 y2 y3 y4 y5 y6 y7 y8
      unfold decklelaw06_DecimalOrder_t.j2
      repeat' first
      | (with_reducible exact ih0 _ _ _ _ _ _ _ _ _)
      | (with_reducible exact ih1 _ _ _ _ _ _ _ _ _)
      | (with_reducible exact ih2 _ _ _ _ _ _ _ _ _)
      | (with_reducible exact ih3 _ _ _ _ _ _ _)
      | (with_reducible exact ih4 _)
      | (with_reducible exact decimal_Compare.mono _ _ _ _ _)
      | (with_reducible exact decimal_Of.mono _ _)
      | (with_reducible exact decimal_Right.mono _ _ _)
      | (with_reducible exact decklelaw06_small.mono _)
      | (with_reducible exact LeO.refl _)
      | (with_reducible exact LeO.none _)
      | (with_reducible refine LeO.ite ?_ ?_)
      | (with_reducible refine LeO.bind ?_ (fun _ => ?_))
      | exact ih0 _ _ _ _ _ _ _ _ _
      | exact ih1 _ _ _ _ _ _ _ _ _
      | exact ih2 _ _ _ _ _ _ _ _ _
      | exact ih3 _ _ _ _ _ _ _
      | exact ih4 _
      | exact decimal_Compare.mono _ _ _ _ _
      | exact decimal_Of.mono _ _
      | exact decimal_Right.mono _ _ _
      | exact decklelaw06_small.mono _
      | exact LeO.none _
      | refine LeO.ite ?_ ?_
      | refine LeO.bind ?_ (fun _ => ?_)
    · intro y0 y1 y2 y3 y4 y5 y6
      unfold decklelaw06_DecimalOrder_t.j3
      repeat' first
      | (with_reducible exact ih0 _ _ _ _ _ _ _ _ _)
      | (with_reducible exact ih1 _ _ _ _ _ _ _ _ _)
      | (with_reducible exact ih2 _ _ _ _ _ _ _ _ _)
      | (with_reducible exact ih3 _ _ _ _ _ _ _)
      | (with_reducible exact ih4 _)
      | (with_reducible exact decimal_Compare.mono _ _ _ _ _)
      | (with_reducible exact decimal_Of.mono _ _)
      | (with_reducible exact decimal_Right.mono _ _ _)
      | (with_reducible exact decklelaw06_small.mono _)
      | (with_reducible exact LeO.refl _)
      | (with_reducible exact LeO.none _)
      | (with_reducible refine LeO.ite ?_ ?_)
      | (with_reducible refine LeO.bind ?_ (fun _ => ?_))
      | exact ih0 _ _ _ _ _ _ _ _ _
      | exact ih1 _ _ _ _ _ _ _ _ _
      | exact ih2 _ _ _ _ _ _ _ _ _
      | exact ih3 _ _ _ _ _ _ _
      | exact ih4 _
      | exact decimal_Compare.mono _ _ _ _ _
      | exact decimal_Of.mono _ _
      | exact decimal_Right.mono _ _ _
      | exact decklelaw06_small.mono _
      | exact LeO.none _
      | refine LeO.ite ?_ ?_
      | refine LeO.bind ?_ (fun _ => ?_)
    · intro y0
      unfold decklelaw06_DecimalOrder_t.j4
      repeat' first
      | (with_reducible exact ih0 _ _ _ _ _ _ _ _ _)
      | (with_reducible exact ih1 _ _ _ _ _ _ _ _ _)
      | (with_reducible exact ih2 _ _ _ _ _ _ _ _ _)
      | (with_reducible exact ih3 _ _ _ _ _ _ _)
      | (with_reducible exact ih4 _)
      | (with_reducible exact decimal_Compare.mono _ _ _ _ _)
      | (with_reducible exact decimal_Of.mono _ _)
      | (with_reducible exact decimal_Right.mono _ _ _)
      | (with_reducible exact decklelaw06_small.mono _)
      | (with_reducible exact LeO.refl _)
      | (with_reducible exact LeO.none _)
      | (with_reducible refine LeO.ite ?_ ?_)
      | (with_reducible refine LeO.bind ?_ (fun _ => ?_))
      | exact ih0 _ _ _ _ _ _ _ _ _
      | exact ih1 _ _ _ _ _ _ _ _ _
      | exact ih2 _ _ _ _ _ _ _ _ _
      | exact ih3 _ _ _ _ _ _ _
      | exact ih4 _
      | exact decimal_Compare.mono _ _ _ _ _
      | exact decimal_Of.mono _ _
      | exact decimal_Right.mono _ _ _
      | exact decklelaw06_small.mono _
      | exact LeO.none _
      | refine LeO.ite ?_ ?_
      | refine LeO.bind ?_ (fun _ => ?_)
theorem decklelaw06_DecimalOrder_t.mono : ∀ a0 a1 a2 a3 a4 a5 a6 a7 k, LeO (decklelaw06_DecimalOrder_t.f k a0 a1 a2 a3 a4 a5 a6 a7) (decklelaw06_DecimalOrder_t.f (k + 1) a0 a1 a2 a3 a4 a5 a6 a7) := by
  intro a0 a1 a2 a3 a4 a5 a6 a7 k
  obtain ⟨ih0, ih1, ih2, ih3, ih4⟩ := decklelaw06_DecimalOrder_t.mono_l k
  unfold decklelaw06_DecimalOrder_t.f
  repeat' first
      | (with_reducible exact ih0 _ _ _ _ _ _ _ _ _)
      | (with_reducible exact ih1 _ _ _ _ _ _ _ _ _)
      | (with_reducible exact ih2 _ _ _ _ _ _ _ _ _)
      | (with_reducible exact ih3 _ _ _ _ _ _ _)
      | (with_reducible exact ih4 _)
      | (with_reducible exact decimal_Compare.mono _ _ _ _ _)
      | (with_reducible exact decimal_Of.mono _ _)
      | (with_reducible exact decimal_Right.mono _ _ _)
      | (with_reducible exact decklelaw06_small.mono _)
      | (with_reducible exact LeO.refl _)
      | (with_reducible exact LeO.none _)
      | (with_reducible refine LeO.ite ?_ ?_)
      | (with_reducible refine LeO.bind ?_ (fun _ => ?_))
      | exact ih0 _ _ _ _ _ _ _ _ _
      | exact ih1 _ _ _ _ _ _ _ _ _
      | exact ih2 _ _ _ _ _ _ _ _ _
      | exact ih3 _ _ _ _ _ _ _
      | exact ih4 _
      | exact decimal_Compare.mono _ _ _ _ _
      | exact decimal_Of.mono _ _
      | exact decimal_Right.mono _ _ _
      | exact decklelaw06_small.mono _
      | exact LeO.none _
      | refine LeO.ite ?_ ?_
      | refine LeO.bind ?_ (fun _ => ?_)
set_option maxHeartbeats 8000000 in
set_option maxRecDepth 100000 in
theorem decklelaw06_DecimalOrder_t.calls (k : Nat) (a0_0 : Int) (a0_1 : Int) (a1_0 : Int) (a1_1 : Int) (a2_0 : Int) (a2_1 : Int) (a3 : Int) (a4 : Int) (r : Bool) (w : World) (hT : Tabs w) (hr : r = true) (h : decklelaw06_DecimalOrder_t.f k a0_0 a0_1 a1_0 a1_1 a2_0 a2_1 a3 a4 = some r) :
    Calls Tryd.prog 6 #[.agg #[.int .i64 a0_0, .int .i64 a0_1], .agg #[.int .i64 a1_0, .int .i64 a1_1], .agg #[.int .i64 a2_0, .int .i64 a2_1], .int .i64 a3, .int .i64 a4] w fun e w' => e = .returned (.bool r) ∧ Below w.heap.size w w' := by
  have hu23 := Tryd.underlying23
  have HB := Aside0.mk (Below.refl w.heap.size w)
  have H : ((decklelaw06_small.f k).bind fun t318 => ((decimal_Compare.f k a0_0 a0_1 a1_0 a1_1).bind fun t319 => ((decimal_Compare.f k a1_0 a1_1 a2_0 a2_1).bind fun t320 => ((decimal_Compare.f k a0_0 a0_1 a2_0 a2_1).bind fun t321 => ((decimal_Compare.f k a1_0 a1_1 a0_0 a0_1).bind fun t322 => (if t319 = (wrap64 (-t322)) then (if t319 < (-1) then (decklelaw06_DecimalOrder_t.j0 k a3 a4 t318 t319 true a0_0 a0_1 a1_0 a1_1) else (if t319 > 1 then (decklelaw06_DecimalOrder_t.j0 k a3 a4 t318 t319 true a0_0 a0_1 a1_0 a1_1) else (if t319 = t320 then (if t321 = t319 then (if t319 = 0 then (if t321 = t320 then (if t320 = 0 then (decklelaw06_DecimalOrder_t.j0 k a3 a4 t318 t319 (t321 != t319) a0_0 a0_1 a1_0 a1_1) else (decklelaw06_DecimalOrder_t.j0 k a3 a4 t318 t319 false a0_0 a0_1 a1_0 a1_1)) else (decklelaw06_DecimalOrder_t.j0 k a3 a4 t318 t319 true a0_0 a0_1 a1_0 a1_1)) else (if t320 = 0 then (decklelaw06_DecimalOrder_t.j0 k a3 a4 t318 t319 (t321 != t319) a0_0 a0_1 a1_0 a1_1) else (decklelaw06_DecimalOrder_t.j0 k a3 a4 t318 t319 false a0_0 a0_1 a1_0 a1_1))) else (decklelaw06_DecimalOrder_t.j0 k a3 a4 t318 t319 true a0_0 a0_1 a1_0 a1_1)) else (if t319 = 0 then (if t321 = t320 then (if t320 = 0 then (decklelaw06_DecimalOrder_t.j0 k a3 a4 t318 t319 (t321 != t319) a0_0 a0_1 a1_0 a1_1) else (decklelaw06_DecimalOrder_t.j0 k a3 a4 t318 t319 false a0_0 a0_1 a1_0 a1_1)) else (decklelaw06_DecimalOrder_t.j0 k a3 a4 t318 t319 true a0_0 a0_1 a1_0 a1_1)) else (if t320 = 0 then (decklelaw06_DecimalOrder_t.j0 k a3 a4 t318 t319 (t321 != t319) a0_0 a0_1 a1_0 a1_1) else (decklelaw06_DecimalOrder_t.j0 k a3 a4 t318 t319 false a0_0 a0_1 a1_0 a1_1)))))) else (decklelaw06_DecimalOrder_t.j0 k a3 a4 t318 t319 true a0_0 a0_1 a1_0 a1_1))))))) = some r := h
  clear h
  replace H := Option.bind_eq_some_iff.mp H
  obtain ⟨t318, A60, H⟩ := H
  have A6 := Aside0.mk A60; clear A60
  replace H := Option.bind_eq_some_iff.mp H
  obtain ⟨t319, A70, H⟩ := H
  have A7 := Aside0.mk A70; clear A70
  replace H := Option.bind_eq_some_iff.mp H
  obtain ⟨t320, A80, H⟩ := H
  have A8 := Aside0.mk A80; clear A80
  replace H := Option.bind_eq_some_iff.mp H
  obtain ⟨t321, A90, H⟩ := H
  have A9 := Aside0.mk A90; clear A90
  have HC10 := Aside0.mk H
  clear H
  go_enter Tryd.func6, Tryd.ntmps6
  go_upto_region 5 with (first | ((with_reducible refine gate_dst (N := 5) rfl ?_); refine box_event ?hg (N := 5) ?hd (cs := #[.int .i64 a0_0, .int .i64 a0_1]) (t := 23) ?hr ?_; (case hd => rfl); (case hg => rfl); (case hr => first | (go_simp; done) | (go_simp; rfl)); intro gb315 hg w11 hbox hb; have n0_ := Aside0.mk (below_step (by repeat (first | (with_reducible first | exact HB.out | apply below_alloc | apply pw_below_drewN | apply below_drew1) | exact HB.out)) hb); have n1_ := Aside0.mk (hbox); have n2_ := Aside0.mk ((by rw [hg]; exact (below_size (by repeat (first | (with_reducible first | exact HB.out | apply below_alloc | apply pw_below_drewN | apply below_drew1) | exact HB.out))) : w.heap.size ≤ gb315)); have n3_ := Aside0.mk ((by rw [hg]; exact (below_size (by repeat (first | (with_reducible first | exact HB.out | apply below_alloc | apply pw_below_drewN | apply below_drew1) | exact HB.out))) : w.heap.size ≤ gb315)); clear HB; have HB := n0_; have BK315 := n1_; have GW315 := n2_; have GE315 := n3_; clear n0_ n1_ n2_ n3_; clear hb hbox hg) | ((with_reducible refine gate_dst (N := 6) rfl ?_); refine box_event ?hg (N := 6) ?hd (cs := #[.int .i64 a1_0, .int .i64 a1_1]) (t := 23) ?hr ?_; (case hd => rfl); (case hg => rfl); (case hr => first | (go_simp; done) | (go_simp; rfl)); intro gb316 hg w12 hbox hb; have n0_ := Aside0.mk (blk_below (g := gb315) (o := .cells #[.int .i64 a0_0, .int .i64 a0_1] 23 (0, 0)) (by (with_reducible repeat (first | refine blk_drewN ?_ _ | refine blk_drew ?_ | refine blk_alloc ?_ _)); exact BK315.out) hb); have n1_ := Aside0.mk (below_step (by repeat (first | (with_reducible first | exact HB.out | apply below_alloc | apply pw_below_drewN | apply below_drew1 | refine below_set ?_ GE315.out) | exact HB.out)) hb); have n2_ := Aside0.mk (hbox); have n3_ := Aside0.mk ((by rw [hg]; exact (below_size (by repeat (first | (with_reducible first | exact HB.out | apply below_alloc | apply pw_below_drewN | apply below_drew1 | refine below_set ?_ GE315.out) | exact HB.out))) : w.heap.size ≤ gb316)); have n4_ := Aside0.mk ((by rw [hg]; exact (below_size (by repeat (first | (with_reducible first | exact HB.out | apply below_alloc | apply pw_below_drewN | apply below_drew1 | refine below_set ?_ GE315.out) | exact HB.out))) : w.heap.size ≤ gb316)); have n5_ := Aside0.mk ((by rw [hg]; exact Nat.ne_of_lt (blk_lt (g := gb315) (o := .cells #[.int .i64 a0_0, .int .i64 a0_1] 23 (0, 0)) (by (with_reducible repeat (first | refine blk_drewN ?_ _ | refine blk_drew ?_ | refine blk_alloc ?_ _)); exact BK315.out)) : gb315 ≠ gb316)); have n6_ := Aside0.mk ((by rw [hg]; exact Nat.ne_of_gt (blk_lt (g := gb315) (o := .cells #[.int .i64 a0_0, .int .i64 a0_1] 23 (0, 0)) (by (with_reducible repeat (first | refine blk_drewN ?_ _ | refine blk_drew ?_ | refine blk_alloc ?_ _)); exact BK315.out)) : gb316 ≠ gb315)); clear BK315; clear HB; have BK315 := n0_; have HB := n1_; have BK316 := n2_; have GW316 := n3_; have GE316 := n4_; have NB315_316 := n5_; have NB316_315 := n6_; clear n0_ n1_ n2_ n3_ n4_ n5_ n6_; clear hb hbox hg) | ((with_reducible refine gate_dst (N := 7) rfl ?_); refine box_event ?hg (N := 7) ?hd (cs := #[.int .i64 a2_0, .int .i64 a2_1]) (t := 23) ?hr ?_; (case hd => rfl); (case hg => rfl); (case hr => first | (go_simp; done) | (go_simp; rfl)); intro gb317 hg w13 hbox hb; have n0_ := Aside0.mk (blk_below (g := gb315) (o := .cells #[.int .i64 a0_0, .int .i64 a0_1] 23 (0, 0)) (by (with_reducible repeat (first | refine blk_drewN ?_ _ | refine blk_drew ?_ | refine blk_alloc ?_ _)); exact BK315.out) hb); have n1_ := Aside0.mk (blk_below (g := gb316) (o := .cells #[.int .i64 a1_0, .int .i64 a1_1] 23 (0, 0)) (by (with_reducible repeat (first | refine blk_drewN ?_ _ | refine blk_drew ?_ | refine blk_alloc ?_ _)); exact BK316.out) hb); have n2_ := Aside0.mk (below_step (by repeat (first | (with_reducible first | exact HB.out | apply below_alloc | apply pw_below_drewN | apply below_drew1 | refine below_set ?_ GE315.out | refine below_set ?_ GE316.out) | exact HB.out)) hb); have n3_ := Aside0.mk (hbox); have n4_ := Aside0.mk ((by rw [hg]; exact (below_size (by repeat (first | (with_reducible first | exact HB.out | apply below_alloc | apply pw_below_drewN | apply below_drew1 | refine below_set ?_ GE315.out | refine below_set ?_ GE316.out) | exact HB.out))) : w.heap.size ≤ gb317)); have n5_ := Aside0.mk ((by rw [hg]; exact (below_size (by repeat (first | (with_reducible first | exact HB.out | apply below_alloc | apply pw_below_drewN | apply below_drew1 | refine below_set ?_ GE315.out | refine below_set ?_ GE316.out) | exact HB.out))) : w.heap.size ≤ gb317)); have n6_ := Aside0.mk ((by rw [hg]; exact Nat.ne_of_lt (blk_lt (g := gb315) (o := .cells #[.int .i64 a0_0, .int .i64 a0_1] 23 (0, 0)) (by (with_reducible repeat (first | refine blk_drewN ?_ _ | refine blk_drew ?_ | refine blk_alloc ?_ _)); exact BK315.out)) : gb315 ≠ gb317)); have n7_ := Aside0.mk ((by rw [hg]; exact Nat.ne_of_gt (blk_lt (g := gb315) (o := .cells #[.int .i64 a0_0, .int .i64 a0_1] 23 (0, 0)) (by (with_reducible repeat (first | refine blk_drewN ?_ _ | refine blk_drew ?_ | refine blk_alloc ?_ _)); exact BK315.out)) : gb317 ≠ gb315)); have n8_ := Aside0.mk ((by rw [hg]; exact Nat.ne_of_lt (blk_lt (g := gb316) (o := .cells #[.int .i64 a1_0, .int .i64 a1_1] 23 (0, 0)) (by (with_reducible repeat (first | refine blk_drewN ?_ _ | refine blk_drew ?_ | refine blk_alloc ?_ _)); exact BK316.out)) : gb316 ≠ gb317)); have n9_ := Aside0.mk ((by rw [hg]; exact Nat.ne_of_gt (blk_lt (g := gb316) (o := .cells #[.int .i64 a1_0, .int .i64 a1_1] 23 (0, 0)) (by (with_reducible repeat (first | refine blk_drewN ?_ _ | refine blk_drew ?_ | refine blk_alloc ?_ _)); exact BK316.out)) : gb317 ≠ gb316)); clear BK315; clear BK316; clear HB; have BK315 := n0_; have BK316 := n1_; have HB := n2_; have BK317 := n3_; have GW317 := n4_; have GE317 := n5_; have NB315_317 := n6_; have NB317_315 := n7_; have NB316_317 := n8_; have NB317_316 := n9_; clear n0_ n1_ n2_ n3_ n4_ n5_ n6_ n7_ n8_ n9_; clear hb hbox hg) | ((with_reducible refine gate_callee (f := 9) rfl ?_); refine goesL_ (some 16) rfl rfl Tryd.func9 (by kernel_rfl) rfl #[] rfl (by (try simp only [List.map_toArray, List.map_cons, List.map_nil]); first | done | rfl | (simp only [List.length_drop, List.length_take]; rfl)) ?_; (with_reducible refine (decklelaw06_small.calls k  t318 _ ?side1 A6.out).mono ?_); (case side1 => first | exact hT | exact Tabs.below hT (by repeat (first | (with_reducible first | exact HB.out | apply below_alloc | apply pw_below_drewN | apply below_drew1 | refine below_set ?_ GE315.out | refine below_set ?_ GE316.out | refine below_set ?_ GE317.out) | exact HB.out)) | ((repeat (first | exact hT | apply Tabs.drewN | apply Tabs.drew)); done)); rintro e w14 ⟨rfl, hb⟩; refine ⟨_, rfl, ?_⟩; have n0_ := Aside0.mk (blk_below (g := gb315) (o := .cells #[.int .i64 a0_0, .int .i64 a0_1] 23 (0, 0)) (by (with_reducible repeat (first | refine blk_drewN ?_ _ | refine blk_drew ?_ | refine blk_alloc ?_ _)); exact BK315.out) hb); have n1_ := Aside0.mk (blk_below (g := gb316) (o := .cells #[.int .i64 a1_0, .int .i64 a1_1] 23 (0, 0)) (by (with_reducible repeat (first | refine blk_drewN ?_ _ | refine blk_drew ?_ | refine blk_alloc ?_ _)); exact BK316.out) hb); have n2_ := Aside0.mk (blk_below (g := gb317) (o := .cells #[.int .i64 a2_0, .int .i64 a2_1] 23 (0, 0)) (by (with_reducible repeat (first | refine blk_drewN ?_ _ | refine blk_drew ?_ | refine blk_alloc ?_ _)); exact BK317.out) hb); have n3_ := Aside0.mk (below_step (by repeat (first | (with_reducible first | exact HB.out | apply below_alloc | apply pw_below_drewN | apply below_drew1 | refine below_set ?_ GE315.out | refine below_set ?_ GE316.out | refine below_set ?_ GE317.out) | exact HB.out)) hb); clear BK315; clear BK316; clear BK317; clear HB; have BK315 := n0_; have BK316 := n1_; have BK317 := n2_; have HB := n3_; clear n0_ n1_ n2_ n3_; (try clear hb); (try clear hb2); (try clear hk); (try clear hi); have hnb15 := NB315_316.out; have hnc15 := NB316_315.out; have hnb16 := NB315_317.out; have hnc16 := NB317_315.out; have hcz17_0 : w14.cell? ⟨gb315, 0, none⟩ = some (.int .i64 a0_0) := (blk_cell BK315.out 0).trans rfl; have hcz17_1 : w14.cell? ⟨gb315, 1, none⟩ = some (.int .i64 a0_1) := (blk_cell BK315.out 1).trans rfl; have hfz17_0 := blk_frozen BK315.out 0; have hfz17_1 := blk_frozen BK315.out 1; have hnb18 := NB316_317.out; have hnc18 := NB317_316.out; have hcz19_0 : w14.cell? ⟨gb316, 0, none⟩ = some (.int .i64 a1_0) := (blk_cell BK316.out 0).trans rfl; have hcz19_1 : w14.cell? ⟨gb316, 1, none⟩ = some (.int .i64 a1_1) := (blk_cell BK316.out 1).trans rfl; have hfz19_0 := blk_frozen BK316.out 0; have hfz19_1 := blk_frozen BK316.out 1) | ((with_reducible refine gate_callee (f := 22) rfl ?_); refine goesL_ (some 19) rfl rfl Tryd.func22 (by kernel_rfl) rfl #[.agg #[.int .i64 a0_0, .int .i64 a0_1], .agg #[.int .i64 a1_0, .int .i64 a1_1]] rfl (by (try simp only [List.map_toArray, List.map_cons, List.map_nil]); first | done | rfl | (simp only [List.length_drop, List.length_take]; rfl)) ?_; (with_reducible refine (decimal_Compare.calls k a0_0 a0_1 a1_0 a1_1 t319 _ ?side1 A7.out).mono ?_); (case side1 => first | exact hT | exact Tabs.below hT (by repeat (first | (with_reducible first | exact HB.out | apply below_alloc | apply pw_below_drewN | apply below_drew1 | refine below_set ?_ GE315.out | refine below_set ?_ GE316.out | refine below_set ?_ GE317.out) | exact HB.out)) | ((repeat (first | exact hT | apply Tabs.drewN | apply Tabs.drew)); done)); rintro e w20 ⟨rfl, hb⟩; refine ⟨_, rfl, ?_⟩; have n0_ := Aside0.mk (blk_below (g := gb315) (o := .cells #[.int .i64 a0_0, .int .i64 a0_1] 23 (0, 0)) (by (with_reducible repeat (first | refine blk_drewN ?_ _ | refine blk_drew ?_ | refine blk_alloc ?_ _)); exact BK315.out) hb); have n1_ := Aside0.mk (blk_below (g := gb316) (o := .cells #[.int .i64 a1_0, .int .i64 a1_1] 23 (0, 0)) (by (with_reducible repeat (first | refine blk_drewN ?_ _ | refine blk_drew ?_ | refine blk_alloc ?_ _)); exact BK316.out) hb); have n2_ := Aside0.mk (blk_below (g := gb317) (o := .cells #[.int .i64 a2_0, .int .i64 a2_1] 23 (0, 0)) (by (with_reducible repeat (first | refine blk_drewN ?_ _ | refine blk_drew ?_ | refine blk_alloc ?_ _)); exact BK317.out) hb); have n3_ := Aside0.mk (below_step (by repeat (first | (with_reducible first | exact HB.out | apply below_alloc | apply pw_below_drewN | apply below_drew1 | refine below_set ?_ GE315.out | refine below_set ?_ GE316.out | refine below_set ?_ GE317.out) | exact HB.out)) hb); clear BK315; clear BK316; clear BK317; clear HB; have BK315 := n0_; have BK316 := n1_; have BK317 := n2_; have HB := n3_; clear n0_ n1_ n2_ n3_; (try clear hb); (try clear hb2); (try clear hk); (try clear hi); have hcz21_0 : w20.cell? ⟨gb316, 0, none⟩ = some (.int .i64 a1_0) := (blk_cell BK316.out 0).trans rfl; have hcz21_1 : w20.cell? ⟨gb316, 1, none⟩ = some (.int .i64 a1_1) := (blk_cell BK316.out 1).trans rfl; have hfz21_0 := blk_frozen BK316.out 0; have hfz21_1 := blk_frozen BK316.out 1; have hcz22_0 : w20.cell? ⟨gb317, 0, none⟩ = some (.int .i64 a2_0) := (blk_cell BK317.out 0).trans rfl; have hcz22_1 : w20.cell? ⟨gb317, 1, none⟩ = some (.int .i64 a2_1) := (blk_cell BK317.out 1).trans rfl; have hfz22_0 := blk_frozen BK317.out 0; have hfz22_1 := blk_frozen BK317.out 1) | ((with_reducible refine gate_callee (f := 22) rfl ?_); refine goesL_ (some 22) rfl rfl Tryd.func22 (by kernel_rfl) rfl #[.agg #[.int .i64 a1_0, .int .i64 a1_1], .agg #[.int .i64 a2_0, .int .i64 a2_1]] rfl (by (try simp only [List.map_toArray, List.map_cons, List.map_nil]); first | done | rfl | (simp only [List.length_drop, List.length_take]; rfl)) ?_; (with_reducible refine (decimal_Compare.calls k a1_0 a1_1 a2_0 a2_1 t320 _ ?side1 A8.out).mono ?_); (case side1 => first | exact hT | exact Tabs.below hT (by repeat (first | (with_reducible first | exact HB.out | apply below_alloc | apply pw_below_drewN | apply below_drew1 | refine below_set ?_ GE315.out | refine below_set ?_ GE316.out | refine below_set ?_ GE317.out) | exact HB.out)) | ((repeat (first | exact hT | apply Tabs.drewN | apply Tabs.drew)); done)); rintro e w23 ⟨rfl, hb⟩; refine ⟨_, rfl, ?_⟩; have n0_ := Aside0.mk (blk_below (g := gb315) (o := .cells #[.int .i64 a0_0, .int .i64 a0_1] 23 (0, 0)) (by (with_reducible repeat (first | refine blk_drewN ?_ _ | refine blk_drew ?_ | refine blk_alloc ?_ _)); exact BK315.out) hb); have n1_ := Aside0.mk (blk_below (g := gb316) (o := .cells #[.int .i64 a1_0, .int .i64 a1_1] 23 (0, 0)) (by (with_reducible repeat (first | refine blk_drewN ?_ _ | refine blk_drew ?_ | refine blk_alloc ?_ _)); exact BK316.out) hb); have n2_ := Aside0.mk (blk_below (g := gb317) (o := .cells #[.int .i64 a2_0, .int .i64 a2_1] 23 (0, 0)) (by (with_reducible repeat (first | refine blk_drewN ?_ _ | refine blk_drew ?_ | refine blk_alloc ?_ _)); exact BK317.out) hb); have n3_ := Aside0.mk (below_step (by repeat (first | (with_reducible first | exact HB.out | apply below_alloc | apply pw_below_drewN | apply below_drew1 | refine below_set ?_ GE315.out | refine below_set ?_ GE316.out | refine below_set ?_ GE317.out) | exact HB.out)) hb); clear BK315; clear BK316; clear BK317; clear HB; have BK315 := n0_; have BK316 := n1_; have BK317 := n2_; have HB := n3_; clear n0_ n1_ n2_ n3_; (try clear hb); (try clear hb2); (try clear hk); (try clear hi); have hcz24_0 : w23.cell? ⟨gb315, 0, none⟩ = some (.int .i64 a0_0) := (blk_cell BK315.out 0).trans rfl; have hcz24_1 : w23.cell? ⟨gb315, 1, none⟩ = some (.int .i64 a0_1) := (blk_cell BK315.out 1).trans rfl; have hfz24_0 := blk_frozen BK315.out 0; have hfz24_1 := blk_frozen BK315.out 1; have hcz25_0 : w23.cell? ⟨gb317, 0, none⟩ = some (.int .i64 a2_0) := (blk_cell BK317.out 0).trans rfl; have hcz25_1 : w23.cell? ⟨gb317, 1, none⟩ = some (.int .i64 a2_1) := (blk_cell BK317.out 1).trans rfl; have hfz25_0 := blk_frozen BK317.out 0; have hfz25_1 := blk_frozen BK317.out 1) | ((with_reducible refine gate_callee (f := 22) rfl ?_); refine goesL_ (some 25) rfl rfl Tryd.func22 (by kernel_rfl) rfl #[.agg #[.int .i64 a0_0, .int .i64 a0_1], .agg #[.int .i64 a2_0, .int .i64 a2_1]] rfl (by (try simp only [List.map_toArray, List.map_cons, List.map_nil]); first | done | rfl | (simp only [List.length_drop, List.length_take]; rfl)) ?_; (with_reducible refine (decimal_Compare.calls k a0_0 a0_1 a2_0 a2_1 t321 _ ?side1 A9.out).mono ?_); (case side1 => first | exact hT | exact Tabs.below hT (by repeat (first | (with_reducible first | exact HB.out | apply below_alloc | apply pw_below_drewN | apply below_drew1 | refine below_set ?_ GE315.out | refine below_set ?_ GE316.out | refine below_set ?_ GE317.out) | exact HB.out)) | ((repeat (first | exact hT | apply Tabs.drewN | apply Tabs.drew)); done)); rintro e w26 ⟨rfl, hb⟩; refine ⟨_, rfl, ?_⟩; have n0_ := Aside0.mk (blk_below (g := gb315) (o := .cells #[.int .i64 a0_0, .int .i64 a0_1] 23 (0, 0)) (by (with_reducible repeat (first | refine blk_drewN ?_ _ | refine blk_drew ?_ | refine blk_alloc ?_ _)); exact BK315.out) hb); have n1_ := Aside0.mk (blk_below (g := gb316) (o := .cells #[.int .i64 a1_0, .int .i64 a1_1] 23 (0, 0)) (by (with_reducible repeat (first | refine blk_drewN ?_ _ | refine blk_drew ?_ | refine blk_alloc ?_ _)); exact BK316.out) hb); have n2_ := Aside0.mk (blk_below (g := gb317) (o := .cells #[.int .i64 a2_0, .int .i64 a2_1] 23 (0, 0)) (by (with_reducible repeat (first | refine blk_drewN ?_ _ | refine blk_drew ?_ | refine blk_alloc ?_ _)); exact BK317.out) hb); have n3_ := Aside0.mk (below_step (by repeat (first | (with_reducible first | exact HB.out | apply below_alloc | apply pw_below_drewN | apply below_drew1 | refine below_set ?_ GE315.out | refine below_set ?_ GE316.out | refine below_set ?_ GE317.out) | exact HB.out)) hb); clear BK315; clear BK316; clear BK317; clear HB; have BK315 := n0_; have BK316 := n1_; have BK317 := n2_; have HB := n3_; clear n0_ n1_ n2_ n3_; (try clear hb); (try clear hb2); (try clear hk); (try clear hi)))
  (try simp only [Act.put, List.setIfInBounds_toArray, List.set_cons_zero, List.set_cons_succ])
  go_cut [67] (fun v67 wc => ∃ (kq : Nat) (x67_9 : Bool), v67 = .bool x67_9 ∧ Aside0 (decklelaw06_DecimalOrder_t.j0 kq a3 a4 t318 t319 x67_9 a0_0 a0_1 a1_0 a1_1 = some r) ∧ Aside0 (kq ≤ k) ∧ Aside0 (wc.heap[gb315]? = some (.cells #[.int .i64 a0_0, .int .i64 a0_1] 23 (0, 0))) ∧ Aside0 (wc.heap[gb316]? = some (.cells #[.int .i64 a1_0, .int .i64 a1_1] 23 (0, 0))) ∧ Aside0 (wc.heap[gb317]? = some (.cells #[.int .i64 a2_0, .int .i64 a2_1] 23 (0, 0))) ∧ Aside0 (Below w.heap.size w wc))
  case first =>
    have H := HC10.out
    clear HC10
    replace H := Option.bind_eq_some_iff.mp H
    obtain ⟨t322, A270, H⟩ := H
    have A27 := Aside0.mk A270; clear A270
    by_cases c28 : t319 = (wrap64 (-t322))
    · rw [if_pos c28] at H
      have c28b0 : (t319 == (wrap64 (-t322))) = true := beq_iff_eq.mpr c28
      have c28b1 : (t319 != (wrap64 (-t322))) = false := bne_eq_false_iff_eq.mpr c28
      clear c28
      (first | rw [c28b0] | (simp only [i64_w, i32_w]; rw [c28b0]) | skip)
      by_cases c29 : t319 < (-1)
      · rw [if_pos c29] at H
        have c29b0 : decide (t319 < (-1)) = true := decide_eq_true c29
        clear c29
        have H' := Aside0.mk H
        clear H
        have hnb30 := NB316_315.out
        have hnc30 := NB315_316.out
        have hnb31 := NB316_317.out
        have hnc31 := NB317_316.out
        have hcz32_0 : w26.cell? ⟨gb316, 0, none⟩ = some (.int .i64 a1_0) := (blk_cell BK316.out 0).trans rfl
        have hcz32_1 : w26.cell? ⟨gb316, 1, none⟩ = some (.int .i64 a1_1) := (blk_cell BK316.out 1).trans rfl
        have hfz32_0 := blk_frozen BK316.out 0
        have hfz32_1 := blk_frozen BK316.out 1
        have hnb33 := NB315_317.out
        have hnc33 := NB317_315.out
        have hcz34_0 : w26.cell? ⟨gb315, 0, none⟩ = some (.int .i64 a0_0) := (blk_cell BK315.out 0).trans rfl
        have hcz34_1 : w26.cell? ⟨gb315, 1, none⟩ = some (.int .i64 a0_1) := (blk_cell BK315.out 1).trans rfl
        have hfz34_0 := blk_frozen BK315.out 0
        have hfz34_1 := blk_frozen BK315.out 1
        go_wp2_with (first | ((with_reducible refine gate_callee (f := 22) rfl ?_); refine goesL_ (some 29) rfl rfl Tryd.func22 (by kernel_rfl) rfl #[.agg #[.int .i64 a1_0, .int .i64 a1_1], .agg #[.int .i64 a0_0, .int .i64 a0_1]] rfl (by (try simp only [List.map_toArray, List.map_cons, List.map_nil]); first | done | rfl | (simp only [List.length_drop, List.length_take]; rfl)) ?_; (with_reducible refine (decimal_Compare.calls k a1_0 a1_1 a0_0 a0_1 t322 _ ?side1 A27.out).mono ?_); (case side1 => first | exact hT | exact Tabs.below hT (by repeat (first | (with_reducible first | exact HB.out | apply below_alloc | apply pw_below_drewN | apply below_drew1 | refine below_set ?_ GE315.out | refine below_set ?_ GE316.out | refine below_set ?_ GE317.out) | exact HB.out)) | ((repeat (first | exact hT | apply Tabs.drewN | apply Tabs.drew)); done)); rintro e w35 ⟨rfl, hb⟩; refine ⟨_, rfl, ?_⟩; have n0_ := Aside0.mk (blk_below (g := gb315) (o := .cells #[.int .i64 a0_0, .int .i64 a0_1] 23 (0, 0)) (by (with_reducible repeat (first | refine blk_drewN ?_ _ | refine blk_drew ?_ | refine blk_alloc ?_ _)); exact BK315.out) hb); have n1_ := Aside0.mk (blk_below (g := gb316) (o := .cells #[.int .i64 a1_0, .int .i64 a1_1] 23 (0, 0)) (by (with_reducible repeat (first | refine blk_drewN ?_ _ | refine blk_drew ?_ | refine blk_alloc ?_ _)); exact BK316.out) hb); have n2_ := Aside0.mk (blk_below (g := gb317) (o := .cells #[.int .i64 a2_0, .int .i64 a2_1] 23 (0, 0)) (by (with_reducible repeat (first | refine blk_drewN ?_ _ | refine blk_drew ?_ | refine blk_alloc ?_ _)); exact BK317.out) hb); have n3_ := Aside0.mk (below_step (by repeat (first | (with_reducible first | exact HB.out | apply below_alloc | apply pw_below_drewN | apply below_drew1 | refine below_set ?_ GE315.out | refine below_set ?_ GE316.out | refine below_set ?_ GE317.out) | exact HB.out)) hb); clear BK315; clear BK316; clear BK317; clear HB; have BK315 := n0_; have BK316 := n1_; have BK317 := n2_; have HB := n3_; clear n0_ n1_ n2_ n3_; (try clear hb); (try clear hb2); (try clear hk); (try clear hi)))
        go_meet
        case rel => exact ⟨_, (true), (by first | rfl | (simp; done) | (simp [*]; done)), H', ⟨by first | omega | exact Nat.le_refl _⟩, ⟨by (with_reducible repeat (first | refine blk_drewN ?_ _ | refine blk_drew ?_ | refine blk_alloc ?_ _)); exact BK315.out⟩, ⟨by (with_reducible repeat (first | refine blk_drewN ?_ _ | refine blk_drew ?_ | refine blk_alloc ?_ _)); exact BK316.out⟩, ⟨by (with_reducible repeat (first | refine blk_drewN ?_ _ | refine blk_drew ?_ | refine blk_alloc ?_ _)); exact BK317.out⟩, ⟨by repeat (first | (with_reducible first | exact HB.out | apply below_alloc | apply pw_below_drewN | apply below_drew1 | refine below_set ?_ GE315.out | refine below_set ?_ GE316.out | refine below_set ?_ GE317.out) | exact HB.out)⟩⟩
      · rw [if_neg c29] at H
        have c29b0 : decide (t319 < (-1)) = false := decide_eq_false c29
        clear c29
        by_cases c36 : t319 > 1
        · rw [if_pos c36] at H
          have c36b0 : decide (1 < t319) = true := decide_eq_true c36
          clear c36
          have H' := Aside0.mk H
          clear H
          have hnb37 := NB316_315.out
          have hnc37 := NB315_316.out
          have hnb38 := NB316_317.out
          have hnc38 := NB317_316.out
          have hcz39_0 : w26.cell? ⟨gb316, 0, none⟩ = some (.int .i64 a1_0) := (blk_cell BK316.out 0).trans rfl
          have hcz39_1 : w26.cell? ⟨gb316, 1, none⟩ = some (.int .i64 a1_1) := (blk_cell BK316.out 1).trans rfl
          have hfz39_0 := blk_frozen BK316.out 0
          have hfz39_1 := blk_frozen BK316.out 1
          have hnb40 := NB315_317.out
          have hnc40 := NB317_315.out
          have hcz41_0 : w26.cell? ⟨gb315, 0, none⟩ = some (.int .i64 a0_0) := (blk_cell BK315.out 0).trans rfl
          have hcz41_1 : w26.cell? ⟨gb315, 1, none⟩ = some (.int .i64 a0_1) := (blk_cell BK315.out 1).trans rfl
          have hfz41_0 := blk_frozen BK315.out 0
          have hfz41_1 := blk_frozen BK315.out 1
          go_wp2_with (first | ((with_reducible refine gate_callee (f := 22) rfl ?_); refine goesL_ (some 29) rfl rfl Tryd.func22 (by kernel_rfl) rfl #[.agg #[.int .i64 a1_0, .int .i64 a1_1], .agg #[.int .i64 a0_0, .int .i64 a0_1]] rfl (by (try simp only [List.map_toArray, List.map_cons, List.map_nil]); first | done | rfl | (simp only [List.length_drop, List.length_take]; rfl)) ?_; (with_reducible refine (decimal_Compare.calls k a1_0 a1_1 a0_0 a0_1 t322 _ ?side1 A27.out).mono ?_); (case side1 => first | exact hT | exact Tabs.below hT (by repeat (first | (with_reducible first | exact HB.out | apply below_alloc | apply pw_below_drewN | apply below_drew1 | refine below_set ?_ GE315.out | refine below_set ?_ GE316.out | refine below_set ?_ GE317.out) | exact HB.out)) | ((repeat (first | exact hT | apply Tabs.drewN | apply Tabs.drew)); done)); rintro e w42 ⟨rfl, hb⟩; refine ⟨_, rfl, ?_⟩; have n0_ := Aside0.mk (blk_below (g := gb315) (o := .cells #[.int .i64 a0_0, .int .i64 a0_1] 23 (0, 0)) (by (with_reducible repeat (first | refine blk_drewN ?_ _ | refine blk_drew ?_ | refine blk_alloc ?_ _)); exact BK315.out) hb); have n1_ := Aside0.mk (blk_below (g := gb316) (o := .cells #[.int .i64 a1_0, .int .i64 a1_1] 23 (0, 0)) (by (with_reducible repeat (first | refine blk_drewN ?_ _ | refine blk_drew ?_ | refine blk_alloc ?_ _)); exact BK316.out) hb); have n2_ := Aside0.mk (blk_below (g := gb317) (o := .cells #[.int .i64 a2_0, .int .i64 a2_1] 23 (0, 0)) (by (with_reducible repeat (first | refine blk_drewN ?_ _ | refine blk_drew ?_ | refine blk_alloc ?_ _)); exact BK317.out) hb); have n3_ := Aside0.mk (below_step (by repeat (first | (with_reducible first | exact HB.out | apply below_alloc | apply pw_below_drewN | apply below_drew1 | refine below_set ?_ GE315.out | refine below_set ?_ GE316.out | refine below_set ?_ GE317.out) | exact HB.out)) hb); clear BK315; clear BK316; clear BK317; clear HB; have BK315 := n0_; have BK316 := n1_; have BK317 := n2_; have HB := n3_; clear n0_ n1_ n2_ n3_; (try clear hb); (try clear hb2); (try clear hk); (try clear hi)))
          go_meet
          case rel => exact ⟨_, (true), (by first | rfl | (simp; done) | (simp [*]; done)), H', ⟨by first | omega | exact Nat.le_refl _⟩, ⟨by (with_reducible repeat (first | refine blk_drewN ?_ _ | refine blk_drew ?_ | refine blk_alloc ?_ _)); exact BK315.out⟩, ⟨by (with_reducible repeat (first | refine blk_drewN ?_ _ | refine blk_drew ?_ | refine blk_alloc ?_ _)); exact BK316.out⟩, ⟨by (with_reducible repeat (first | refine blk_drewN ?_ _ | refine blk_drew ?_ | refine blk_alloc ?_ _)); exact BK317.out⟩, ⟨by repeat (first | (with_reducible first | exact HB.out | apply below_alloc | apply pw_below_drewN | apply below_drew1 | refine below_set ?_ GE315.out | refine below_set ?_ GE316.out | refine below_set ?_ GE317.out) | exact HB.out)⟩⟩
        · rw [if_neg c36] at H
          have c36b0 : decide (1 < t319) = false := decide_eq_false c36
          clear c36
          by_cases c43 : t319 = t320
          · rw [if_pos c43] at H
            have c43b0 : (t319 == t320) = true := beq_iff_eq.mpr c43
            have c43b1 : (t319 != t320) = false := bne_eq_false_iff_eq.mpr c43
            clear c43
            by_cases c44 : t321 = t319
            · rw [if_pos c44] at H
              have c44b0 : (t321 == t319) = true := beq_iff_eq.mpr c44
              have c44b1 : (t321 != t319) = false := bne_eq_false_iff_eq.mpr c44
              clear c44
              by_cases c45 : t319 = 0
              · rw [if_pos c45] at H
                have c45b0 : (t319 == 0) = true := beq_iff_eq.mpr c45
                have c45b1 : (t319 != 0) = false := bne_eq_false_iff_eq.mpr c45
                clear c45
                by_cases c46 : t321 = t320
                · rw [if_pos c46] at H
                  have c46b0 : (t321 == t320) = true := beq_iff_eq.mpr c46
                  have c46b1 : (t321 != t320) = false := bne_eq_false_iff_eq.mpr c46
                  clear c46
                  by_cases c47 : t320 = 0
                  · rw [if_pos c47] at H
                    have c47b0 : (t320 == 0) = true := beq_iff_eq.mpr c47
                    have c47b1 : (t320 != 0) = false := bne_eq_false_iff_eq.mpr c47
                    clear c47
                    have H' := Aside0.mk H
                    clear H
                    have hnb48 := NB316_315.out
                    have hnc48 := NB315_316.out
                    have hnb49 := NB316_317.out
                    have hnc49 := NB317_316.out
                    have hcz50_0 : w26.cell? ⟨gb316, 0, none⟩ = some (.int .i64 a1_0) := (blk_cell BK316.out 0).trans rfl
                    have hcz50_1 : w26.cell? ⟨gb316, 1, none⟩ = some (.int .i64 a1_1) := (blk_cell BK316.out 1).trans rfl
                    have hfz50_0 := blk_frozen BK316.out 0
                    have hfz50_1 := blk_frozen BK316.out 1
                    have hnb51 := NB315_317.out
                    have hnc51 := NB317_315.out
                    have hcz52_0 : w26.cell? ⟨gb315, 0, none⟩ = some (.int .i64 a0_0) := (blk_cell BK315.out 0).trans rfl
                    have hcz52_1 : w26.cell? ⟨gb315, 1, none⟩ = some (.int .i64 a0_1) := (blk_cell BK315.out 1).trans rfl
                    have hfz52_0 := blk_frozen BK315.out 0
                    have hfz52_1 := blk_frozen BK315.out 1
                    go_wp2_with (first | ((with_reducible refine gate_callee (f := 22) rfl ?_); refine goesL_ (some 29) rfl rfl Tryd.func22 (by kernel_rfl) rfl #[.agg #[.int .i64 a1_0, .int .i64 a1_1], .agg #[.int .i64 a0_0, .int .i64 a0_1]] rfl (by (try simp only [List.map_toArray, List.map_cons, List.map_nil]); first | done | rfl | (simp only [List.length_drop, List.length_take]; rfl)) ?_; (with_reducible refine (decimal_Compare.calls k a1_0 a1_1 a0_0 a0_1 t322 _ ?side1 A27.out).mono ?_); (case side1 => first | exact hT | exact Tabs.below hT (by repeat (first | (with_reducible first | exact HB.out | apply below_alloc | apply pw_below_drewN | apply below_drew1 | refine below_set ?_ GE315.out | refine below_set ?_ GE316.out | refine below_set ?_ GE317.out) | exact HB.out)) | ((repeat (first | exact hT | apply Tabs.drewN | apply Tabs.drew)); done)); rintro e w53 ⟨rfl, hb⟩; refine ⟨_, rfl, ?_⟩; have n0_ := Aside0.mk (blk_below (g := gb315) (o := .cells #[.int .i64 a0_0, .int .i64 a0_1] 23 (0, 0)) (by (with_reducible repeat (first | refine blk_drewN ?_ _ | refine blk_drew ?_ | refine blk_alloc ?_ _)); exact BK315.out) hb); have n1_ := Aside0.mk (blk_below (g := gb316) (o := .cells #[.int .i64 a1_0, .int .i64 a1_1] 23 (0, 0)) (by (with_reducible repeat (first | refine blk_drewN ?_ _ | refine blk_drew ?_ | refine blk_alloc ?_ _)); exact BK316.out) hb); have n2_ := Aside0.mk (blk_below (g := gb317) (o := .cells #[.int .i64 a2_0, .int .i64 a2_1] 23 (0, 0)) (by (with_reducible repeat (first | refine blk_drewN ?_ _ | refine blk_drew ?_ | refine blk_alloc ?_ _)); exact BK317.out) hb); have n3_ := Aside0.mk (below_step (by repeat (first | (with_reducible first | exact HB.out | apply below_alloc | apply pw_below_drewN | apply below_drew1 | refine below_set ?_ GE315.out | refine below_set ?_ GE316.out | refine below_set ?_ GE317.out) | exact HB.out)) hb); clear BK315; clear BK316; clear BK317; clear HB; have BK315 := n0_; have BK316 := n1_; have BK317 := n2_; have HB := n3_; clear n0_ n1_ n2_ n3_; (try clear hb); (try clear hb2); (try clear hk); (try clear hi)))
                    go_meet
                    case rel => exact ⟨_, ((t321 != t319)), (by first | rfl | (simp; done) | (simp [*]; done)), H', ⟨by first | omega | exact Nat.le_refl _⟩, ⟨by (with_reducible repeat (first | refine blk_drewN ?_ _ | refine blk_drew ?_ | refine blk_alloc ?_ _)); exact BK315.out⟩, ⟨by (with_reducible repeat (first | refine blk_drewN ?_ _ | refine blk_drew ?_ | refine blk_alloc ?_ _)); exact BK316.out⟩, ⟨by (with_reducible repeat (first | refine blk_drewN ?_ _ | refine blk_drew ?_ | refine blk_alloc ?_ _)); exact BK317.out⟩, ⟨by repeat (first | (with_reducible first | exact HB.out | apply below_alloc | apply pw_below_drewN | apply below_drew1 | refine below_set ?_ GE315.out | refine below_set ?_ GE316.out | refine below_set ?_ GE317.out) | exact HB.out)⟩⟩
                  · rw [if_neg c47] at H
                    have c47b0 : (t320 == 0) = false := beq_eq_false_iff_ne.mpr c47
                    have c47b1 : (t320 != 0) = true := bne_iff_ne.mpr c47
                    have H' := Aside0.mk H
                    clear H
                    have hnb54 := NB316_315.out
                    have hnc54 := NB315_316.out
                    have hnb55 := NB316_317.out
                    have hnc55 := NB317_316.out
                    have hcz56_0 : w26.cell? ⟨gb316, 0, none⟩ = some (.int .i64 a1_0) := (blk_cell BK316.out 0).trans rfl
                    have hcz56_1 : w26.cell? ⟨gb316, 1, none⟩ = some (.int .i64 a1_1) := (blk_cell BK316.out 1).trans rfl
                    have hfz56_0 := blk_frozen BK316.out 0
                    have hfz56_1 := blk_frozen BK316.out 1
                    have hnb57 := NB315_317.out
                    have hnc57 := NB317_315.out
                    have hcz58_0 : w26.cell? ⟨gb315, 0, none⟩ = some (.int .i64 a0_0) := (blk_cell BK315.out 0).trans rfl
                    have hcz58_1 : w26.cell? ⟨gb315, 1, none⟩ = some (.int .i64 a0_1) := (blk_cell BK315.out 1).trans rfl
                    have hfz58_0 := blk_frozen BK315.out 0
                    have hfz58_1 := blk_frozen BK315.out 1
                    go_wp2_with (first | ((with_reducible refine gate_callee (f := 22) rfl ?_); refine goesL_ (some 29) rfl rfl Tryd.func22 (by kernel_rfl) rfl #[.agg #[.int .i64 a1_0, .int .i64 a1_1], .agg #[.int .i64 a0_0, .int .i64 a0_1]] rfl (by (try simp only [List.map_toArray, List.map_cons, List.map_nil]); first | done | rfl | (simp only [List.length_drop, List.length_take]; rfl)) ?_; (with_reducible refine (decimal_Compare.calls k a1_0 a1_1 a0_0 a0_1 t322 _ ?side1 A27.out).mono ?_); (case side1 => first | exact hT | exact Tabs.below hT (by repeat (first | (with_reducible first | exact HB.out | apply below_alloc | apply pw_below_drewN | apply below_drew1 | refine below_set ?_ GE315.out | refine below_set ?_ GE316.out | refine below_set ?_ GE317.out) | exact HB.out)) | ((repeat (first | exact hT | apply Tabs.drewN | apply Tabs.drew)); done)); rintro e w59 ⟨rfl, hb⟩; refine ⟨_, rfl, ?_⟩; have n0_ := Aside0.mk (blk_below (g := gb315) (o := .cells #[.int .i64 a0_0, .int .i64 a0_1] 23 (0, 0)) (by (with_reducible repeat (first | refine blk_drewN ?_ _ | refine blk_drew ?_ | refine blk_alloc ?_ _)); exact BK315.out) hb); have n1_ := Aside0.mk (blk_below (g := gb316) (o := .cells #[.int .i64 a1_0, .int .i64 a1_1] 23 (0, 0)) (by (with_reducible repeat (first | refine blk_drewN ?_ _ | refine blk_drew ?_ | refine blk_alloc ?_ _)); exact BK316.out) hb); have n2_ := Aside0.mk (blk_below (g := gb317) (o := .cells #[.int .i64 a2_0, .int .i64 a2_1] 23 (0, 0)) (by (with_reducible repeat (first | refine blk_drewN ?_ _ | refine blk_drew ?_ | refine blk_alloc ?_ _)); exact BK317.out) hb); have n3_ := Aside0.mk (below_step (by repeat (first | (with_reducible first | exact HB.out | apply below_alloc | apply pw_below_drewN | apply below_drew1 | refine below_set ?_ GE315.out | refine below_set ?_ GE316.out | refine below_set ?_ GE317.out) | exact HB.out)) hb); clear BK315; clear BK316; clear BK317; clear HB; have BK315 := n0_; have BK316 := n1_; have BK317 := n2_; have HB := n3_; clear n0_ n1_ n2_ n3_; (try clear hb); (try clear hb2); (try clear hk); (try clear hi)))
                    go_meet
                    case rel => exact ⟨_, (false), (by first | rfl | (simp; done) | (simp [*]; done)), H', ⟨by first | omega | exact Nat.le_refl _⟩, ⟨by (with_reducible repeat (first | refine blk_drewN ?_ _ | refine blk_drew ?_ | refine blk_alloc ?_ _)); exact BK315.out⟩, ⟨by (with_reducible repeat (first | refine blk_drewN ?_ _ | refine blk_drew ?_ | refine blk_alloc ?_ _)); exact BK316.out⟩, ⟨by (with_reducible repeat (first | refine blk_drewN ?_ _ | refine blk_drew ?_ | refine blk_alloc ?_ _)); exact BK317.out⟩, ⟨by repeat (first | (with_reducible first | exact HB.out | apply below_alloc | apply pw_below_drewN | apply below_drew1 | refine below_set ?_ GE315.out | refine below_set ?_ GE316.out | refine below_set ?_ GE317.out) | exact HB.out)⟩⟩
                · rw [if_neg c46] at H
                  have c46b0 : (t321 == t320) = false := beq_eq_false_iff_ne.mpr c46
                  have c46b1 : (t321 != t320) = true := bne_iff_ne.mpr c46
                  have H' := Aside0.mk H
                  clear H
                  have hnb60 := NB316_315.out
                  have hnc60 := NB315_316.out
                  have hnb61 := NB316_317.out
                  have hnc61 := NB317_316.out
                  have hcz62_0 : w26.cell? ⟨gb316, 0, none⟩ = some (.int .i64 a1_0) := (blk_cell BK316.out 0).trans rfl
                  have hcz62_1 : w26.cell? ⟨gb316, 1, none⟩ = some (.int .i64 a1_1) := (blk_cell BK316.out 1).trans rfl
                  have hfz62_0 := blk_frozen BK316.out 0
                  have hfz62_1 := blk_frozen BK316.out 1
                  have hnb63 := NB315_317.out
                  have hnc63 := NB317_315.out
                  have hcz64_0 : w26.cell? ⟨gb315, 0, none⟩ = some (.int .i64 a0_0) := (blk_cell BK315.out 0).trans rfl
                  have hcz64_1 : w26.cell? ⟨gb315, 1, none⟩ = some (.int .i64 a0_1) := (blk_cell BK315.out 1).trans rfl
                  have hfz64_0 := blk_frozen BK315.out 0
                  have hfz64_1 := blk_frozen BK315.out 1
                  go_wp2_with (first | ((with_reducible refine gate_callee (f := 22) rfl ?_); refine goesL_ (some 29) rfl rfl Tryd.func22 (by kernel_rfl) rfl #[.agg #[.int .i64 a1_0, .int .i64 a1_1], .agg #[.int .i64 a0_0, .int .i64 a0_1]] rfl (by (try simp only [List.map_toArray, List.map_cons, List.map_nil]); first | done | rfl | (simp only [List.length_drop, List.length_take]; rfl)) ?_; (with_reducible refine (decimal_Compare.calls k a1_0 a1_1 a0_0 a0_1 t322 _ ?side1 A27.out).mono ?_); (case side1 => first | exact hT | exact Tabs.below hT (by repeat (first | (with_reducible first | exact HB.out | apply below_alloc | apply pw_below_drewN | apply below_drew1 | refine below_set ?_ GE315.out | refine below_set ?_ GE316.out | refine below_set ?_ GE317.out) | exact HB.out)) | ((repeat (first | exact hT | apply Tabs.drewN | apply Tabs.drew)); done)); rintro e w65 ⟨rfl, hb⟩; refine ⟨_, rfl, ?_⟩; have n0_ := Aside0.mk (blk_below (g := gb315) (o := .cells #[.int .i64 a0_0, .int .i64 a0_1] 23 (0, 0)) (by (with_reducible repeat (first | refine blk_drewN ?_ _ | refine blk_drew ?_ | refine blk_alloc ?_ _)); exact BK315.out) hb); have n1_ := Aside0.mk (blk_below (g := gb316) (o := .cells #[.int .i64 a1_0, .int .i64 a1_1] 23 (0, 0)) (by (with_reducible repeat (first | refine blk_drewN ?_ _ | refine blk_drew ?_ | refine blk_alloc ?_ _)); exact BK316.out) hb); have n2_ := Aside0.mk (blk_below (g := gb317) (o := .cells #[.int .i64 a2_0, .int .i64 a2_1] 23 (0, 0)) (by (with_reducible repeat (first | refine blk_drewN ?_ _ | refine blk_drew ?_ | refine blk_alloc ?_ _)); exact BK317.out) hb); have n3_ := Aside0.mk (below_step (by repeat (first | (with_reducible first | exact HB.out | apply below_alloc | apply pw_below_drewN | apply below_drew1 | refine below_set ?_ GE315.out | refine below_set ?_ GE316.out | refine below_set ?_ GE317.out) | exact HB.out)) hb); clear BK315; clear BK316; clear BK317; clear HB; have BK315 := n0_; have BK316 := n1_; have BK317 := n2_; have HB := n3_; clear n0_ n1_ n2_ n3_; (try clear hb); (try clear hb2); (try clear hk); (try clear hi)))
                  go_meet
                  case rel => exact ⟨_, (true), (by first | rfl | (simp; done) | (simp [*]; done)), H', ⟨by first | omega | exact Nat.le_refl _⟩, ⟨by (with_reducible repeat (first | refine blk_drewN ?_ _ | refine blk_drew ?_ | refine blk_alloc ?_ _)); exact BK315.out⟩, ⟨by (with_reducible repeat (first | refine blk_drewN ?_ _ | refine blk_drew ?_ | refine blk_alloc ?_ _)); exact BK316.out⟩, ⟨by (with_reducible repeat (first | refine blk_drewN ?_ _ | refine blk_drew ?_ | refine blk_alloc ?_ _)); exact BK317.out⟩, ⟨by repeat (first | (with_reducible first | exact HB.out | apply below_alloc | apply pw_below_drewN | apply below_drew1 | refine below_set ?_ GE315.out | refine below_set ?_ GE316.out | refine below_set ?_ GE317.out) | exact HB.out)⟩⟩
              · rw [if_neg c45] at H
                have c45b0 : (t319 == 0) = false := beq_eq_false_iff_ne.mpr c45
                have c45b1 : (t319 != 0) = true := bne_iff_ne.mpr c45
                by_cases c66 : t320 = 0
                · rw [if_pos c66] at H
                  have c66b0 : (t320 == 0) = true := beq_iff_eq.mpr c66
                  have c66b1 : (t320 != 0) = false := bne_eq_false_iff_eq.mpr c66
                  clear c66
                  have H' := Aside0.mk H
                  clear H
                  have hnb67 := NB316_315.out
                  have hnc67 := NB315_316.out
                  have hnb68 := NB316_317.out
                  have hnc68 := NB317_316.out
                  have hcz69_0 : w26.cell? ⟨gb316, 0, none⟩ = some (.int .i64 a1_0) := (blk_cell BK316.out 0).trans rfl
                  have hcz69_1 : w26.cell? ⟨gb316, 1, none⟩ = some (.int .i64 a1_1) := (blk_cell BK316.out 1).trans rfl
                  have hfz69_0 := blk_frozen BK316.out 0
                  have hfz69_1 := blk_frozen BK316.out 1
                  have hnb70 := NB315_317.out
                  have hnc70 := NB317_315.out
                  have hcz71_0 : w26.cell? ⟨gb315, 0, none⟩ = some (.int .i64 a0_0) := (blk_cell BK315.out 0).trans rfl
                  have hcz71_1 : w26.cell? ⟨gb315, 1, none⟩ = some (.int .i64 a0_1) := (blk_cell BK315.out 1).trans rfl
                  have hfz71_0 := blk_frozen BK315.out 0
                  have hfz71_1 := blk_frozen BK315.out 1
                  go_wp2_with (first | ((with_reducible refine gate_callee (f := 22) rfl ?_); refine goesL_ (some 29) rfl rfl Tryd.func22 (by kernel_rfl) rfl #[.agg #[.int .i64 a1_0, .int .i64 a1_1], .agg #[.int .i64 a0_0, .int .i64 a0_1]] rfl (by (try simp only [List.map_toArray, List.map_cons, List.map_nil]); first | done | rfl | (simp only [List.length_drop, List.length_take]; rfl)) ?_; (with_reducible refine (decimal_Compare.calls k a1_0 a1_1 a0_0 a0_1 t322 _ ?side1 A27.out).mono ?_); (case side1 => first | exact hT | exact Tabs.below hT (by repeat (first | (with_reducible first | exact HB.out | apply below_alloc | apply pw_below_drewN | apply below_drew1 | refine below_set ?_ GE315.out | refine below_set ?_ GE316.out | refine below_set ?_ GE317.out) | exact HB.out)) | ((repeat (first | exact hT | apply Tabs.drewN | apply Tabs.drew)); done)); rintro e w72 ⟨rfl, hb⟩; refine ⟨_, rfl, ?_⟩; have n0_ := Aside0.mk (blk_below (g := gb315) (o := .cells #[.int .i64 a0_0, .int .i64 a0_1] 23 (0, 0)) (by (with_reducible repeat (first | refine blk_drewN ?_ _ | refine blk_drew ?_ | refine blk_alloc ?_ _)); exact BK315.out) hb); have n1_ := Aside0.mk (blk_below (g := gb316) (o := .cells #[.int .i64 a1_0, .int .i64 a1_1] 23 (0, 0)) (by (with_reducible repeat (first | refine blk_drewN ?_ _ | refine blk_drew ?_ | refine blk_alloc ?_ _)); exact BK316.out) hb); have n2_ := Aside0.mk (blk_below (g := gb317) (o := .cells #[.int .i64 a2_0, .int .i64 a2_1] 23 (0, 0)) (by (with_reducible repeat (first | refine blk_drewN ?_ _ | refine blk_drew ?_ | refine blk_alloc ?_ _)); exact BK317.out) hb); have n3_ := Aside0.mk (below_step (by repeat (first | (with_reducible first | exact HB.out | apply below_alloc | apply pw_below_drewN | apply below_drew1 | refine below_set ?_ GE315.out | refine below_set ?_ GE316.out | refine below_set ?_ GE317.out) | exact HB.out)) hb); clear BK315; clear BK316; clear BK317; clear HB; have BK315 := n0_; have BK316 := n1_; have BK317 := n2_; have HB := n3_; clear n0_ n1_ n2_ n3_; (try clear hb); (try clear hb2); (try clear hk); (try clear hi)))
                  go_meet
                  case rel => exact ⟨_, ((t321 != t319)), (by first | rfl | (simp; done) | (simp [*]; done)), H', ⟨by first | omega | exact Nat.le_refl _⟩, ⟨by (with_reducible repeat (first | refine blk_drewN ?_ _ | refine blk_drew ?_ | refine blk_alloc ?_ _)); exact BK315.out⟩, ⟨by (with_reducible repeat (first | refine blk_drewN ?_ _ | refine blk_drew ?_ | refine blk_alloc ?_ _)); exact BK316.out⟩, ⟨by (with_reducible repeat (first | refine blk_drewN ?_ _ | refine blk_drew ?_ | refine blk_alloc ?_ _)); exact BK317.out⟩, ⟨by repeat (first | (with_reducible first | exact HB.out | apply below_alloc | apply pw_below_drewN | apply below_drew1 | refine below_set ?_ GE315.out | refine below_set ?_ GE316.out | refine below_set ?_ GE317.out) | exact HB.out)⟩⟩
                · rw [if_neg c66] at H
                  have c66b0 : (t320 == 0) = false := beq_eq_false_iff_ne.mpr c66
                  have c66b1 : (t320 != 0) = true := bne_iff_ne.mpr c66
                  have H' := Aside0.mk H
                  clear H
                  have hnb73 := NB316_315.out
                  have hnc73 := NB315_316.out
                  have hnb74 := NB316_317.out
                  have hnc74 := NB317_316.out
                  have hcz75_0 : w26.cell? ⟨gb316, 0, none⟩ = some (.int .i64 a1_0) := (blk_cell BK316.out 0).trans rfl
                  have hcz75_1 : w26.cell? ⟨gb316, 1, none⟩ = some (.int .i64 a1_1) := (blk_cell BK316.out 1).trans rfl
                  have hfz75_0 := blk_frozen BK316.out 0
                  have hfz75_1 := blk_frozen BK316.out 1
                  have hnb76 := NB315_317.out
                  have hnc76 := NB317_315.out
                  have hcz77_0 : w26.cell? ⟨gb315, 0, none⟩ = some (.int .i64 a0_0) := (blk_cell BK315.out 0).trans rfl
                  have hcz77_1 : w26.cell? ⟨gb315, 1, none⟩ = some (.int .i64 a0_1) := (blk_cell BK315.out 1).trans rfl
                  have hfz77_0 := blk_frozen BK315.out 0
                  have hfz77_1 := blk_frozen BK315.out 1
                  go_wp2_with (first | ((with_reducible refine gate_callee (f := 22) rfl ?_); refine goesL_ (some 29) rfl rfl Tryd.func22 (by kernel_rfl) rfl #[.agg #[.int .i64 a1_0, .int .i64 a1_1], .agg #[.int .i64 a0_0, .int .i64 a0_1]] rfl (by (try simp only [List.map_toArray, List.map_cons, List.map_nil]); first | done | rfl | (simp only [List.length_drop, List.length_take]; rfl)) ?_; (with_reducible refine (decimal_Compare.calls k a1_0 a1_1 a0_0 a0_1 t322 _ ?side1 A27.out).mono ?_); (case side1 => first | exact hT | exact Tabs.below hT (by repeat (first | (with_reducible first | exact HB.out | apply below_alloc | apply pw_below_drewN | apply below_drew1 | refine below_set ?_ GE315.out | refine below_set ?_ GE316.out | refine below_set ?_ GE317.out) | exact HB.out)) | ((repeat (first | exact hT | apply Tabs.drewN | apply Tabs.drew)); done)); rintro e w78 ⟨rfl, hb⟩; refine ⟨_, rfl, ?_⟩; have n0_ := Aside0.mk (blk_below (g := gb315) (o := .cells #[.int .i64 a0_0, .int .i64 a0_1] 23 (0, 0)) (by (with_reducible repeat (first | refine blk_drewN ?_ _ | refine blk_drew ?_ | refine blk_alloc ?_ _)); exact BK315.out) hb); have n1_ := Aside0.mk (blk_below (g := gb316) (o := .cells #[.int .i64 a1_0, .int .i64 a1_1] 23 (0, 0)) (by (with_reducible repeat (first | refine blk_drewN ?_ _ | refine blk_drew ?_ | refine blk_alloc ?_ _)); exact BK316.out) hb); have n2_ := Aside0.mk (blk_below (g := gb317) (o := .cells #[.int .i64 a2_0, .int .i64 a2_1] 23 (0, 0)) (by (with_reducible repeat (first | refine blk_drewN ?_ _ | refine blk_drew ?_ | refine blk_alloc ?_ _)); exact BK317.out) hb); have n3_ := Aside0.mk (below_step (by repeat (first | (with_reducible first | exact HB.out | apply below_alloc | apply pw_below_drewN | apply below_drew1 | refine below_set ?_ GE315.out | refine below_set ?_ GE316.out | refine below_set ?_ GE317.out) | exact HB.out)) hb); clear BK315; clear BK316; clear BK317; clear HB; have BK315 := n0_; have BK316 := n1_; have BK317 := n2_; have HB := n3_; clear n0_ n1_ n2_ n3_; (try clear hb); (try clear hb2); (try clear hk); (try clear hi)))
                  go_meet
                  case rel => exact ⟨_, (false), (by first | rfl | (simp; done) | (simp [*]; done)), H', ⟨by first | omega | exact Nat.le_refl _⟩, ⟨by (with_reducible repeat (first | refine blk_drewN ?_ _ | refine blk_drew ?_ | refine blk_alloc ?_ _)); exact BK315.out⟩, ⟨by (with_reducible repeat (first | refine blk_drewN ?_ _ | refine blk_drew ?_ | refine blk_alloc ?_ _)); exact BK316.out⟩, ⟨by (with_reducible repeat (first | refine blk_drewN ?_ _ | refine blk_drew ?_ | refine blk_alloc ?_ _)); exact BK317.out⟩, ⟨by repeat (first | (with_reducible first | exact HB.out | apply below_alloc | apply pw_below_drewN | apply below_drew1 | refine below_set ?_ GE315.out | refine below_set ?_ GE316.out | refine below_set ?_ GE317.out) | exact HB.out)⟩⟩
            · rw [if_neg c44] at H
              have c44b0 : (t321 == t319) = false := beq_eq_false_iff_ne.mpr c44
              have c44b1 : (t321 != t319) = true := bne_iff_ne.mpr c44
              have H' := Aside0.mk H
              clear H
              have hnb79 := NB316_315.out
              have hnc79 := NB315_316.out
              have hnb80 := NB316_317.out
              have hnc80 := NB317_316.out
              have hcz81_0 : w26.cell? ⟨gb316, 0, none⟩ = some (.int .i64 a1_0) := (blk_cell BK316.out 0).trans rfl
              have hcz81_1 : w26.cell? ⟨gb316, 1, none⟩ = some (.int .i64 a1_1) := (blk_cell BK316.out 1).trans rfl
              have hfz81_0 := blk_frozen BK316.out 0
              have hfz81_1 := blk_frozen BK316.out 1
              have hnb82 := NB315_317.out
              have hnc82 := NB317_315.out
              have hcz83_0 : w26.cell? ⟨gb315, 0, none⟩ = some (.int .i64 a0_0) := (blk_cell BK315.out 0).trans rfl
              have hcz83_1 : w26.cell? ⟨gb315, 1, none⟩ = some (.int .i64 a0_1) := (blk_cell BK315.out 1).trans rfl
              have hfz83_0 := blk_frozen BK315.out 0
              have hfz83_1 := blk_frozen BK315.out 1
              go_wp2_with (first | ((with_reducible refine gate_callee (f := 22) rfl ?_); refine goesL_ (some 29) rfl rfl Tryd.func22 (by kernel_rfl) rfl #[.agg #[.int .i64 a1_0, .int .i64 a1_1], .agg #[.int .i64 a0_0, .int .i64 a0_1]] rfl (by (try simp only [List.map_toArray, List.map_cons, List.map_nil]); first | done | rfl | (simp only [List.length_drop, List.length_take]; rfl)) ?_; (with_reducible refine (decimal_Compare.calls k a1_0 a1_1 a0_0 a0_1 t322 _ ?side1 A27.out).mono ?_); (case side1 => first | exact hT | exact Tabs.below hT (by repeat (first | (with_reducible first | exact HB.out | apply below_alloc | apply pw_below_drewN | apply below_drew1 | refine below_set ?_ GE315.out | refine below_set ?_ GE316.out | refine below_set ?_ GE317.out) | exact HB.out)) | ((repeat (first | exact hT | apply Tabs.drewN | apply Tabs.drew)); done)); rintro e w84 ⟨rfl, hb⟩; refine ⟨_, rfl, ?_⟩; have n0_ := Aside0.mk (blk_below (g := gb315) (o := .cells #[.int .i64 a0_0, .int .i64 a0_1] 23 (0, 0)) (by (with_reducible repeat (first | refine blk_drewN ?_ _ | refine blk_drew ?_ | refine blk_alloc ?_ _)); exact BK315.out) hb); have n1_ := Aside0.mk (blk_below (g := gb316) (o := .cells #[.int .i64 a1_0, .int .i64 a1_1] 23 (0, 0)) (by (with_reducible repeat (first | refine blk_drewN ?_ _ | refine blk_drew ?_ | refine blk_alloc ?_ _)); exact BK316.out) hb); have n2_ := Aside0.mk (blk_below (g := gb317) (o := .cells #[.int .i64 a2_0, .int .i64 a2_1] 23 (0, 0)) (by (with_reducible repeat (first | refine blk_drewN ?_ _ | refine blk_drew ?_ | refine blk_alloc ?_ _)); exact BK317.out) hb); have n3_ := Aside0.mk (below_step (by repeat (first | (with_reducible first | exact HB.out | apply below_alloc | apply pw_below_drewN | apply below_drew1 | refine below_set ?_ GE315.out | refine below_set ?_ GE316.out | refine below_set ?_ GE317.out) | exact HB.out)) hb); clear BK315; clear BK316; clear BK317; clear HB; have BK315 := n0_; have BK316 := n1_; have BK317 := n2_; have HB := n3_; clear n0_ n1_ n2_ n3_; (try clear hb); (try clear hb2); (try clear hk); (try clear hi)))
              go_meet
              case rel => exact ⟨_, (true), (by first | rfl | (simp; done) | (simp [*]; done)), H', ⟨by first | omega | exact Nat.le_refl _⟩, ⟨by (with_reducible repeat (first | refine blk_drewN ?_ _ | refine blk_drew ?_ | refine blk_alloc ?_ _)); exact BK315.out⟩, ⟨by (with_reducible repeat (first | refine blk_drewN ?_ _ | refine blk_drew ?_ | refine blk_alloc ?_ _)); exact BK316.out⟩, ⟨by (with_reducible repeat (first | refine blk_drewN ?_ _ | refine blk_drew ?_ | refine blk_alloc ?_ _)); exact BK317.out⟩, ⟨by repeat (first | (with_reducible first | exact HB.out | apply below_alloc | apply pw_below_drewN | apply below_drew1 | refine below_set ?_ GE315.out | refine below_set ?_ GE316.out | refine below_set ?_ GE317.out) | exact HB.out)⟩⟩
          · rw [if_neg c43] at H
            have c43b0 : (t319 == t320) = false := beq_eq_false_iff_ne.mpr c43
            have c43b1 : (t319 != t320) = true := bne_iff_ne.mpr c43
            by_cases c85 : t319 = 0
            · rw [if_pos c85] at H
              have c85b0 : (t319 == 0) = true := beq_iff_eq.mpr c85
              have c85b1 : (t319 != 0) = false := bne_eq_false_iff_eq.mpr c85
              clear c85
              by_cases c86 : t321 = t320
              · rw [if_pos c86] at H
                have c86b0 : (t321 == t320) = true := beq_iff_eq.mpr c86
                have c86b1 : (t321 != t320) = false := bne_eq_false_iff_eq.mpr c86
                clear c86
                by_cases c87 : t320 = 0
                · rw [if_pos c87] at H
                  have c87b0 : (t320 == 0) = true := beq_iff_eq.mpr c87
                  have c87b1 : (t320 != 0) = false := bne_eq_false_iff_eq.mpr c87
                  clear c87
                  have H' := Aside0.mk H
                  clear H
                  have hnb88 := NB316_315.out
                  have hnc88 := NB315_316.out
                  have hnb89 := NB316_317.out
                  have hnc89 := NB317_316.out
                  have hcz90_0 : w26.cell? ⟨gb316, 0, none⟩ = some (.int .i64 a1_0) := (blk_cell BK316.out 0).trans rfl
                  have hcz90_1 : w26.cell? ⟨gb316, 1, none⟩ = some (.int .i64 a1_1) := (blk_cell BK316.out 1).trans rfl
                  have hfz90_0 := blk_frozen BK316.out 0
                  have hfz90_1 := blk_frozen BK316.out 1
                  have hnb91 := NB315_317.out
                  have hnc91 := NB317_315.out
                  have hcz92_0 : w26.cell? ⟨gb315, 0, none⟩ = some (.int .i64 a0_0) := (blk_cell BK315.out 0).trans rfl
                  have hcz92_1 : w26.cell? ⟨gb315, 1, none⟩ = some (.int .i64 a0_1) := (blk_cell BK315.out 1).trans rfl
                  have hfz92_0 := blk_frozen BK315.out 0
                  have hfz92_1 := blk_frozen BK315.out 1
                  go_wp2_with (first | ((with_reducible refine gate_callee (f := 22) rfl ?_); refine goesL_ (some 29) rfl rfl Tryd.func22 (by kernel_rfl) rfl #[.agg #[.int .i64 a1_0, .int .i64 a1_1], .agg #[.int .i64 a0_0, .int .i64 a0_1]] rfl (by (try simp only [List.map_toArray, List.map_cons, List.map_nil]); first | done | rfl | (simp only [List.length_drop, List.length_take]; rfl)) ?_; (with_reducible refine (decimal_Compare.calls k a1_0 a1_1 a0_0 a0_1 t322 _ ?side1 A27.out).mono ?_); (case side1 => first | exact hT | exact Tabs.below hT (by repeat (first | (with_reducible first | exact HB.out | apply below_alloc | apply pw_below_drewN | apply below_drew1 | refine below_set ?_ GE315.out | refine below_set ?_ GE316.out | refine below_set ?_ GE317.out) | exact HB.out)) | ((repeat (first | exact hT | apply Tabs.drewN | apply Tabs.drew)); done)); rintro e w93 ⟨rfl, hb⟩; refine ⟨_, rfl, ?_⟩; have n0_ := Aside0.mk (blk_below (g := gb315) (o := .cells #[.int .i64 a0_0, .int .i64 a0_1] 23 (0, 0)) (by (with_reducible repeat (first | refine blk_drewN ?_ _ | refine blk_drew ?_ | refine blk_alloc ?_ _)); exact BK315.out) hb); have n1_ := Aside0.mk (blk_below (g := gb316) (o := .cells #[.int .i64 a1_0, .int .i64 a1_1] 23 (0, 0)) (by (with_reducible repeat (first | refine blk_drewN ?_ _ | refine blk_drew ?_ | refine blk_alloc ?_ _)); exact BK316.out) hb); have n2_ := Aside0.mk (blk_below (g := gb317) (o := .cells #[.int .i64 a2_0, .int .i64 a2_1] 23 (0, 0)) (by (with_reducible repeat (first | refine blk_drewN ?_ _ | refine blk_drew ?_ | refine blk_alloc ?_ _)); exact BK317.out) hb); have n3_ := Aside0.mk (below_step (by repeat (first | (with_reducible first | exact HB.out | apply below_alloc | apply pw_below_drewN | apply below_drew1 | refine below_set ?_ GE315.out | refine below_set ?_ GE316.out | refine below_set ?_ GE317.out) | exact HB.out)) hb); clear BK315; clear BK316; clear BK317; clear HB; have BK315 := n0_; have BK316 := n1_; have BK317 := n2_; have HB := n3_; clear n0_ n1_ n2_ n3_; (try clear hb); (try clear hb2); (try clear hk); (try clear hi)))
                  go_meet
                  case rel => exact ⟨_, ((t321 != t319)), (by first | rfl | (simp; done) | (simp [*]; done)), H', ⟨by first | omega | exact Nat.le_refl _⟩, ⟨by (with_reducible repeat (first | refine blk_drewN ?_ _ | refine blk_drew ?_ | refine blk_alloc ?_ _)); exact BK315.out⟩, ⟨by (with_reducible repeat (first | refine blk_drewN ?_ _ | refine blk_drew ?_ | refine blk_alloc ?_ _)); exact BK316.out⟩, ⟨by (with_reducible repeat (first | refine blk_drewN ?_ _ | refine blk_drew ?_ | refine blk_alloc ?_ _)); exact BK317.out⟩, ⟨by repeat (first | (with_reducible first | exact HB.out | apply below_alloc | apply pw_below_drewN | apply below_drew1 | refine below_set ?_ GE315.out | refine below_set ?_ GE316.out | refine below_set ?_ GE317.out) | exact HB.out)⟩⟩
                · rw [if_neg c87] at H
                  have c87b0 : (t320 == 0) = false := beq_eq_false_iff_ne.mpr c87
                  have c87b1 : (t320 != 0) = true := bne_iff_ne.mpr c87
                  have H' := Aside0.mk H
                  clear H
                  have hnb94 := NB316_315.out
                  have hnc94 := NB315_316.out
                  have hnb95 := NB316_317.out
                  have hnc95 := NB317_316.out
                  have hcz96_0 : w26.cell? ⟨gb316, 0, none⟩ = some (.int .i64 a1_0) := (blk_cell BK316.out 0).trans rfl
                  have hcz96_1 : w26.cell? ⟨gb316, 1, none⟩ = some (.int .i64 a1_1) := (blk_cell BK316.out 1).trans rfl
                  have hfz96_0 := blk_frozen BK316.out 0
                  have hfz96_1 := blk_frozen BK316.out 1
                  have hnb97 := NB315_317.out
                  have hnc97 := NB317_315.out
                  have hcz98_0 : w26.cell? ⟨gb315, 0, none⟩ = some (.int .i64 a0_0) := (blk_cell BK315.out 0).trans rfl
                  have hcz98_1 : w26.cell? ⟨gb315, 1, none⟩ = some (.int .i64 a0_1) := (blk_cell BK315.out 1).trans rfl
                  have hfz98_0 := blk_frozen BK315.out 0
                  have hfz98_1 := blk_frozen BK315.out 1
                  go_wp2_with (first | ((with_reducible refine gate_callee (f := 22) rfl ?_); refine goesL_ (some 29) rfl rfl Tryd.func22 (by kernel_rfl) rfl #[.agg #[.int .i64 a1_0, .int .i64 a1_1], .agg #[.int .i64 a0_0, .int .i64 a0_1]] rfl (by (try simp only [List.map_toArray, List.map_cons, List.map_nil]); first | done | rfl | (simp only [List.length_drop, List.length_take]; rfl)) ?_; (with_reducible refine (decimal_Compare.calls k a1_0 a1_1 a0_0 a0_1 t322 _ ?side1 A27.out).mono ?_); (case side1 => first | exact hT | exact Tabs.below hT (by repeat (first | (with_reducible first | exact HB.out | apply below_alloc | apply pw_below_drewN | apply below_drew1 | refine below_set ?_ GE315.out | refine below_set ?_ GE316.out | refine below_set ?_ GE317.out) | exact HB.out)) | ((repeat (first | exact hT | apply Tabs.drewN | apply Tabs.drew)); done)); rintro e w99 ⟨rfl, hb⟩; refine ⟨_, rfl, ?_⟩; have n0_ := Aside0.mk (blk_below (g := gb315) (o := .cells #[.int .i64 a0_0, .int .i64 a0_1] 23 (0, 0)) (by (with_reducible repeat (first | refine blk_drewN ?_ _ | refine blk_drew ?_ | refine blk_alloc ?_ _)); exact BK315.out) hb); have n1_ := Aside0.mk (blk_below (g := gb316) (o := .cells #[.int .i64 a1_0, .int .i64 a1_1] 23 (0, 0)) (by (with_reducible repeat (first | refine blk_drewN ?_ _ | refine blk_drew ?_ | refine blk_alloc ?_ _)); exact BK316.out) hb); have n2_ := Aside0.mk (blk_below (g := gb317) (o := .cells #[.int .i64 a2_0, .int .i64 a2_1] 23 (0, 0)) (by (with_reducible repeat (first | refine blk_drewN ?_ _ | refine blk_drew ?_ | refine blk_alloc ?_ _)); exact BK317.out) hb); have n3_ := Aside0.mk (below_step (by repeat (first | (with_reducible first | exact HB.out | apply below_alloc | apply pw_below_drewN | apply below_drew1 | refine below_set ?_ GE315.out | refine below_set ?_ GE316.out | refine below_set ?_ GE317.out) | exact HB.out)) hb); clear BK315; clear BK316; clear BK317; clear HB; have BK315 := n0_; have BK316 := n1_; have BK317 := n2_; have HB := n3_; clear n0_ n1_ n2_ n3_; (try clear hb); (try clear hb2); (try clear hk); (try clear hi)))
                  go_meet
                  case rel => exact ⟨_, (false), (by first | rfl | (simp; done) | (simp [*]; done)), H', ⟨by first | omega | exact Nat.le_refl _⟩, ⟨by (with_reducible repeat (first | refine blk_drewN ?_ _ | refine blk_drew ?_ | refine blk_alloc ?_ _)); exact BK315.out⟩, ⟨by (with_reducible repeat (first | refine blk_drewN ?_ _ | refine blk_drew ?_ | refine blk_alloc ?_ _)); exact BK316.out⟩, ⟨by (with_reducible repeat (first | refine blk_drewN ?_ _ | refine blk_drew ?_ | refine blk_alloc ?_ _)); exact BK317.out⟩, ⟨by repeat (first | (with_reducible first | exact HB.out | apply below_alloc | apply pw_below_drewN | apply below_drew1 | refine below_set ?_ GE315.out | refine below_set ?_ GE316.out | refine below_set ?_ GE317.out) | exact HB.out)⟩⟩
              · rw [if_neg c86] at H
                have c86b0 : (t321 == t320) = false := beq_eq_false_iff_ne.mpr c86
                have c86b1 : (t321 != t320) = true := bne_iff_ne.mpr c86
                have H' := Aside0.mk H
                clear H
                have hnb100 := NB316_315.out
                have hnc100 := NB315_316.out
                have hnb101 := NB316_317.out
                have hnc101 := NB317_316.out
                have hcz102_0 : w26.cell? ⟨gb316, 0, none⟩ = some (.int .i64 a1_0) := (blk_cell BK316.out 0).trans rfl
                have hcz102_1 : w26.cell? ⟨gb316, 1, none⟩ = some (.int .i64 a1_1) := (blk_cell BK316.out 1).trans rfl
                have hfz102_0 := blk_frozen BK316.out 0
                have hfz102_1 := blk_frozen BK316.out 1
                have hnb103 := NB315_317.out
                have hnc103 := NB317_315.out
                have hcz104_0 : w26.cell? ⟨gb315, 0, none⟩ = some (.int .i64 a0_0) := (blk_cell BK315.out 0).trans rfl
                have hcz104_1 : w26.cell? ⟨gb315, 1, none⟩ = some (.int .i64 a0_1) := (blk_cell BK315.out 1).trans rfl
                have hfz104_0 := blk_frozen BK315.out 0
                have hfz104_1 := blk_frozen BK315.out 1
                go_wp2_with (first | ((with_reducible refine gate_callee (f := 22) rfl ?_); refine goesL_ (some 29) rfl rfl Tryd.func22 (by kernel_rfl) rfl #[.agg #[.int .i64 a1_0, .int .i64 a1_1], .agg #[.int .i64 a0_0, .int .i64 a0_1]] rfl (by (try simp only [List.map_toArray, List.map_cons, List.map_nil]); first | done | rfl | (simp only [List.length_drop, List.length_take]; rfl)) ?_; (with_reducible refine (decimal_Compare.calls k a1_0 a1_1 a0_0 a0_1 t322 _ ?side1 A27.out).mono ?_); (case side1 => first | exact hT | exact Tabs.below hT (by repeat (first | (with_reducible first | exact HB.out | apply below_alloc | apply pw_below_drewN | apply below_drew1 | refine below_set ?_ GE315.out | refine below_set ?_ GE316.out | refine below_set ?_ GE317.out) | exact HB.out)) | ((repeat (first | exact hT | apply Tabs.drewN | apply Tabs.drew)); done)); rintro e w105 ⟨rfl, hb⟩; refine ⟨_, rfl, ?_⟩; have n0_ := Aside0.mk (blk_below (g := gb315) (o := .cells #[.int .i64 a0_0, .int .i64 a0_1] 23 (0, 0)) (by (with_reducible repeat (first | refine blk_drewN ?_ _ | refine blk_drew ?_ | refine blk_alloc ?_ _)); exact BK315.out) hb); have n1_ := Aside0.mk (blk_below (g := gb316) (o := .cells #[.int .i64 a1_0, .int .i64 a1_1] 23 (0, 0)) (by (with_reducible repeat (first | refine blk_drewN ?_ _ | refine blk_drew ?_ | refine blk_alloc ?_ _)); exact BK316.out) hb); have n2_ := Aside0.mk (blk_below (g := gb317) (o := .cells #[.int .i64 a2_0, .int .i64 a2_1] 23 (0, 0)) (by (with_reducible repeat (first | refine blk_drewN ?_ _ | refine blk_drew ?_ | refine blk_alloc ?_ _)); exact BK317.out) hb); have n3_ := Aside0.mk (below_step (by repeat (first | (with_reducible first | exact HB.out | apply below_alloc | apply pw_below_drewN | apply below_drew1 | refine below_set ?_ GE315.out | refine below_set ?_ GE316.out | refine below_set ?_ GE317.out) | exact HB.out)) hb); clear BK315; clear BK316; clear BK317; clear HB; have BK315 := n0_; have BK316 := n1_; have BK317 := n2_; have HB := n3_; clear n0_ n1_ n2_ n3_; (try clear hb); (try clear hb2); (try clear hk); (try clear hi)))
                go_meet
                case rel => exact ⟨_, (true), (by first | rfl | (simp; done) | (simp [*]; done)), H', ⟨by first | omega | exact Nat.le_refl _⟩, ⟨by (with_reducible repeat (first | refine blk_drewN ?_ _ | refine blk_drew ?_ | refine blk_alloc ?_ _)); exact BK315.out⟩, ⟨by (with_reducible repeat (first | refine blk_drewN ?_ _ | refine blk_drew ?_ | refine blk_alloc ?_ _)); exact BK316.out⟩, ⟨by (with_reducible repeat (first | refine blk_drewN ?_ _ | refine blk_drew ?_ | refine blk_alloc ?_ _)); exact BK317.out⟩, ⟨by repeat (first | (with_reducible first | exact HB.out | apply below_alloc | apply pw_below_drewN | apply below_drew1 | refine below_set ?_ GE315.out | refine below_set ?_ GE316.out | refine below_set ?_ GE317.out) | exact HB.out)⟩⟩
            · rw [if_neg c85] at H
              have c85b0 : (t319 == 0) = false := beq_eq_false_iff_ne.mpr c85
              have c85b1 : (t319 != 0) = true := bne_iff_ne.mpr c85
              by_cases c106 : t320 = 0
              · rw [if_pos c106] at H
                have c106b0 : (t320 == 0) = true := beq_iff_eq.mpr c106
                have c106b1 : (t320 != 0) = false := bne_eq_false_iff_eq.mpr c106
                clear c106
                have H' := Aside0.mk H
                clear H
                have hnb107 := NB316_315.out
                have hnc107 := NB315_316.out
                have hnb108 := NB316_317.out
                have hnc108 := NB317_316.out
                have hcz109_0 : w26.cell? ⟨gb316, 0, none⟩ = some (.int .i64 a1_0) := (blk_cell BK316.out 0).trans rfl
                have hcz109_1 : w26.cell? ⟨gb316, 1, none⟩ = some (.int .i64 a1_1) := (blk_cell BK316.out 1).trans rfl
                have hfz109_0 := blk_frozen BK316.out 0
                have hfz109_1 := blk_frozen BK316.out 1
                have hnb110 := NB315_317.out
                have hnc110 := NB317_315.out
                have hcz111_0 : w26.cell? ⟨gb315, 0, none⟩ = some (.int .i64 a0_0) := (blk_cell BK315.out 0).trans rfl
                have hcz111_1 : w26.cell? ⟨gb315, 1, none⟩ = some (.int .i64 a0_1) := (blk_cell BK315.out 1).trans rfl
                have hfz111_0 := blk_frozen BK315.out 0
                have hfz111_1 := blk_frozen BK315.out 1
                go_wp2_with (first | ((with_reducible refine gate_callee (f := 22) rfl ?_); refine goesL_ (some 29) rfl rfl Tryd.func22 (by kernel_rfl) rfl #[.agg #[.int .i64 a1_0, .int .i64 a1_1], .agg #[.int .i64 a0_0, .int .i64 a0_1]] rfl (by (try simp only [List.map_toArray, List.map_cons, List.map_nil]); first | done | rfl | (simp only [List.length_drop, List.length_take]; rfl)) ?_; (with_reducible refine (decimal_Compare.calls k a1_0 a1_1 a0_0 a0_1 t322 _ ?side1 A27.out).mono ?_); (case side1 => first | exact hT | exact Tabs.below hT (by repeat (first | (with_reducible first | exact HB.out | apply below_alloc | apply pw_below_drewN | apply below_drew1 | refine below_set ?_ GE315.out | refine below_set ?_ GE316.out | refine below_set ?_ GE317.out) | exact HB.out)) | ((repeat (first | exact hT | apply Tabs.drewN | apply Tabs.drew)); done)); rintro e w112 ⟨rfl, hb⟩; refine ⟨_, rfl, ?_⟩; have n0_ := Aside0.mk (blk_below (g := gb315) (o := .cells #[.int .i64 a0_0, .int .i64 a0_1] 23 (0, 0)) (by (with_reducible repeat (first | refine blk_drewN ?_ _ | refine blk_drew ?_ | refine blk_alloc ?_ _)); exact BK315.out) hb); have n1_ := Aside0.mk (blk_below (g := gb316) (o := .cells #[.int .i64 a1_0, .int .i64 a1_1] 23 (0, 0)) (by (with_reducible repeat (first | refine blk_drewN ?_ _ | refine blk_drew ?_ | refine blk_alloc ?_ _)); exact BK316.out) hb); have n2_ := Aside0.mk (blk_below (g := gb317) (o := .cells #[.int .i64 a2_0, .int .i64 a2_1] 23 (0, 0)) (by (with_reducible repeat (first | refine blk_drewN ?_ _ | refine blk_drew ?_ | refine blk_alloc ?_ _)); exact BK317.out) hb); have n3_ := Aside0.mk (below_step (by repeat (first | (with_reducible first | exact HB.out | apply below_alloc | apply pw_below_drewN | apply below_drew1 | refine below_set ?_ GE315.out | refine below_set ?_ GE316.out | refine below_set ?_ GE317.out) | exact HB.out)) hb); clear BK315; clear BK316; clear BK317; clear HB; have BK315 := n0_; have BK316 := n1_; have BK317 := n2_; have HB := n3_; clear n0_ n1_ n2_ n3_; (try clear hb); (try clear hb2); (try clear hk); (try clear hi)))
                go_meet
                case rel => exact ⟨_, ((t321 != t319)), (by first | rfl | (simp; done) | (simp [*]; done)), H', ⟨by first | omega | exact Nat.le_refl _⟩, ⟨by (with_reducible repeat (first | refine blk_drewN ?_ _ | refine blk_drew ?_ | refine blk_alloc ?_ _)); exact BK315.out⟩, ⟨by (with_reducible repeat (first | refine blk_drewN ?_ _ | refine blk_drew ?_ | refine blk_alloc ?_ _)); exact BK316.out⟩, ⟨by (with_reducible repeat (first | refine blk_drewN ?_ _ | refine blk_drew ?_ | refine blk_alloc ?_ _)); exact BK317.out⟩, ⟨by repeat (first | (with_reducible first | exact HB.out | apply below_alloc | apply pw_below_drewN | apply below_drew1 | refine below_set ?_ GE315.out | refine below_set ?_ GE316.out | refine below_set ?_ GE317.out) | exact HB.out)⟩⟩
              · rw [if_neg c106] at H
                have c106b0 : (t320 == 0) = false := beq_eq_false_iff_ne.mpr c106
                have c106b1 : (t320 != 0) = true := bne_iff_ne.mpr c106
                have H' := Aside0.mk H
                clear H
                have hnb113 := NB316_315.out
                have hnc113 := NB315_316.out
                have hnb114 := NB316_317.out
                have hnc114 := NB317_316.out
                have hcz115_0 : w26.cell? ⟨gb316, 0, none⟩ = some (.int .i64 a1_0) := (blk_cell BK316.out 0).trans rfl
                have hcz115_1 : w26.cell? ⟨gb316, 1, none⟩ = some (.int .i64 a1_1) := (blk_cell BK316.out 1).trans rfl
                have hfz115_0 := blk_frozen BK316.out 0
                have hfz115_1 := blk_frozen BK316.out 1
                have hnb116 := NB315_317.out
                have hnc116 := NB317_315.out
                have hcz117_0 : w26.cell? ⟨gb315, 0, none⟩ = some (.int .i64 a0_0) := (blk_cell BK315.out 0).trans rfl
                have hcz117_1 : w26.cell? ⟨gb315, 1, none⟩ = some (.int .i64 a0_1) := (blk_cell BK315.out 1).trans rfl
                have hfz117_0 := blk_frozen BK315.out 0
                have hfz117_1 := blk_frozen BK315.out 1
                go_wp2_with (first | ((with_reducible refine gate_callee (f := 22) rfl ?_); refine goesL_ (some 29) rfl rfl Tryd.func22 (by kernel_rfl) rfl #[.agg #[.int .i64 a1_0, .int .i64 a1_1], .agg #[.int .i64 a0_0, .int .i64 a0_1]] rfl (by (try simp only [List.map_toArray, List.map_cons, List.map_nil]); first | done | rfl | (simp only [List.length_drop, List.length_take]; rfl)) ?_; (with_reducible refine (decimal_Compare.calls k a1_0 a1_1 a0_0 a0_1 t322 _ ?side1 A27.out).mono ?_); (case side1 => first | exact hT | exact Tabs.below hT (by repeat (first | (with_reducible first | exact HB.out | apply below_alloc | apply pw_below_drewN | apply below_drew1 | refine below_set ?_ GE315.out | refine below_set ?_ GE316.out | refine below_set ?_ GE317.out) | exact HB.out)) | ((repeat (first | exact hT | apply Tabs.drewN | apply Tabs.drew)); done)); rintro e w118 ⟨rfl, hb⟩; refine ⟨_, rfl, ?_⟩; have n0_ := Aside0.mk (blk_below (g := gb315) (o := .cells #[.int .i64 a0_0, .int .i64 a0_1] 23 (0, 0)) (by (with_reducible repeat (first | refine blk_drewN ?_ _ | refine blk_drew ?_ | refine blk_alloc ?_ _)); exact BK315.out) hb); have n1_ := Aside0.mk (blk_below (g := gb316) (o := .cells #[.int .i64 a1_0, .int .i64 a1_1] 23 (0, 0)) (by (with_reducible repeat (first | refine blk_drewN ?_ _ | refine blk_drew ?_ | refine blk_alloc ?_ _)); exact BK316.out) hb); have n2_ := Aside0.mk (blk_below (g := gb317) (o := .cells #[.int .i64 a2_0, .int .i64 a2_1] 23 (0, 0)) (by (with_reducible repeat (first | refine blk_drewN ?_ _ | refine blk_drew ?_ | refine blk_alloc ?_ _)); exact BK317.out) hb); have n3_ := Aside0.mk (below_step (by repeat (first | (with_reducible first | exact HB.out | apply below_alloc | apply pw_below_drewN | apply below_drew1 | refine below_set ?_ GE315.out | refine below_set ?_ GE316.out | refine below_set ?_ GE317.out) | exact HB.out)) hb); clear BK315; clear BK316; clear BK317; clear HB; have BK315 := n0_; have BK316 := n1_; have BK317 := n2_; have HB := n3_; clear n0_ n1_ n2_ n3_; (try clear hb); (try clear hb2); (try clear hk); (try clear hi)))
                go_meet
                case rel => exact ⟨_, (false), (by first | rfl | (simp; done) | (simp [*]; done)), H', ⟨by first | omega | exact Nat.le_refl _⟩, ⟨by (with_reducible repeat (first | refine blk_drewN ?_ _ | refine blk_drew ?_ | refine blk_alloc ?_ _)); exact BK315.out⟩, ⟨by (with_reducible repeat (first | refine blk_drewN ?_ _ | refine blk_drew ?_ | refine blk_alloc ?_ _)); exact BK316.out⟩, ⟨by (with_reducible repeat (first | refine blk_drewN ?_ _ | refine blk_drew ?_ | refine blk_alloc ?_ _)); exact BK317.out⟩, ⟨by repeat (first | (with_reducible first | exact HB.out | apply below_alloc | apply pw_below_drewN | apply below_drew1 | refine below_set ?_ GE315.out | refine below_set ?_ GE316.out | refine below_set ?_ GE317.out) | exact HB.out)⟩⟩
    · rw [if_neg c28] at H
      have c28b0 : (t319 == (wrap64 (-t322))) = false := beq_eq_false_iff_ne.mpr c28
      have c28b1 : (t319 != (wrap64 (-t322))) = true := bne_iff_ne.mpr c28
      (first | rw [c28b0] | (simp only [i64_w, i32_w]; rw [c28b0]) | skip)
      have H' := Aside0.mk H
      clear H
      have hnb119 := NB316_315.out
      have hnc119 := NB315_316.out
      have hnb120 := NB316_317.out
      have hnc120 := NB317_316.out
      have hcz121_0 : w26.cell? ⟨gb316, 0, none⟩ = some (.int .i64 a1_0) := (blk_cell BK316.out 0).trans rfl
      have hcz121_1 : w26.cell? ⟨gb316, 1, none⟩ = some (.int .i64 a1_1) := (blk_cell BK316.out 1).trans rfl
      have hfz121_0 := blk_frozen BK316.out 0
      have hfz121_1 := blk_frozen BK316.out 1
      have hnb122 := NB315_317.out
      have hnc122 := NB317_315.out
      have hcz123_0 : w26.cell? ⟨gb315, 0, none⟩ = some (.int .i64 a0_0) := (blk_cell BK315.out 0).trans rfl
      have hcz123_1 : w26.cell? ⟨gb315, 1, none⟩ = some (.int .i64 a0_1) := (blk_cell BK315.out 1).trans rfl
      have hfz123_0 := blk_frozen BK315.out 0
      have hfz123_1 := blk_frozen BK315.out 1
      go_wp2_with (first | ((with_reducible refine gate_callee (f := 22) rfl ?_); refine goesL_ (some 29) rfl rfl Tryd.func22 (by kernel_rfl) rfl #[.agg #[.int .i64 a1_0, .int .i64 a1_1], .agg #[.int .i64 a0_0, .int .i64 a0_1]] rfl (by (try simp only [List.map_toArray, List.map_cons, List.map_nil]); first | done | rfl | (simp only [List.length_drop, List.length_take]; rfl)) ?_; (with_reducible refine (decimal_Compare.calls k a1_0 a1_1 a0_0 a0_1 t322 _ ?side1 A27.out).mono ?_); (case side1 => first | exact hT | exact Tabs.below hT (by repeat (first | (with_reducible first | exact HB.out | apply below_alloc | apply pw_below_drewN | apply below_drew1 | refine below_set ?_ GE315.out | refine below_set ?_ GE316.out | refine below_set ?_ GE317.out) | exact HB.out)) | ((repeat (first | exact hT | apply Tabs.drewN | apply Tabs.drew)); done)); rintro e w124 ⟨rfl, hb⟩; refine ⟨_, rfl, ?_⟩; have n0_ := Aside0.mk (blk_below (g := gb315) (o := .cells #[.int .i64 a0_0, .int .i64 a0_1] 23 (0, 0)) (by (with_reducible repeat (first | refine blk_drewN ?_ _ | refine blk_drew ?_ | refine blk_alloc ?_ _)); exact BK315.out) hb); have n1_ := Aside0.mk (blk_below (g := gb316) (o := .cells #[.int .i64 a1_0, .int .i64 a1_1] 23 (0, 0)) (by (with_reducible repeat (first | refine blk_drewN ?_ _ | refine blk_drew ?_ | refine blk_alloc ?_ _)); exact BK316.out) hb); have n2_ := Aside0.mk (blk_below (g := gb317) (o := .cells #[.int .i64 a2_0, .int .i64 a2_1] 23 (0, 0)) (by (with_reducible repeat (first | refine blk_drewN ?_ _ | refine blk_drew ?_ | refine blk_alloc ?_ _)); exact BK317.out) hb); have n3_ := Aside0.mk (below_step (by repeat (first | (with_reducible first | exact HB.out | apply below_alloc | apply pw_below_drewN | apply below_drew1 | refine below_set ?_ GE315.out | refine below_set ?_ GE316.out | refine below_set ?_ GE317.out) | exact HB.out)) hb); clear BK315; clear BK316; clear BK317; clear HB; have BK315 := n0_; have BK316 := n1_; have BK317 := n2_; have HB := n3_; clear n0_ n1_ n2_ n3_; (try clear hb); (try clear hb2); (try clear hk); (try clear hi)))
      go_meet
      case rel => exact ⟨_, (true), (by first | rfl | (simp; done) | (simp [*]; done)), H', ⟨by first | omega | exact Nat.le_refl _⟩, ⟨by (with_reducible repeat (first | refine blk_drewN ?_ _ | refine blk_drew ?_ | refine blk_alloc ?_ _)); exact BK315.out⟩, ⟨by (with_reducible repeat (first | refine blk_drewN ?_ _ | refine blk_drew ?_ | refine blk_alloc ?_ _)); exact BK316.out⟩, ⟨by (with_reducible repeat (first | refine blk_drewN ?_ _ | refine blk_drew ?_ | refine blk_alloc ?_ _)); exact BK317.out⟩, ⟨by repeat (first | (with_reducible first | exact HB.out | apply below_alloc | apply pw_below_drewN | apply below_drew1 | refine below_set ?_ GE315.out | refine below_set ?_ GE316.out | refine below_set ?_ GE317.out) | exact HB.out)⟩⟩
  case rest =>
    clear HC10
    try clear c1
    try clear c2
    try clear p2
    try clear c3
    try clear c4
    try clear c5
    try clear c6
    try clear p6
    try clear c7
    try clear c8
    try clear c9
    try clear c10
    try clear c11
    try clear c12
    try clear c15
    try clear c16
    try clear c18
    try clear c22
    try clear c28
    try clear c28b0
    try clear c28b1
    try clear c29
    try clear c29b0
    try clear c30
    try clear c31
    try clear c33
    try clear c36
    try clear c36b0
    try clear c37
    try clear c38
    try clear c40
    try clear c43
    try clear c43b0
    try clear c43b1
    try clear c44
    try clear c44b0
    try clear c44b1
    try clear c45
    try clear c45b0
    try clear c45b1
    try clear c46
    try clear c46b0
    try clear c46b1
    try clear c47
    try clear c47b0
    try clear c47b1
    try clear c48
    try clear c49
    try clear c51
    try clear c54
    try clear c55
    try clear c57
    try clear c60
    try clear c61
    try clear c63
    try clear p64
    try clear c66
    try clear c66b0
    try clear c66b1
    try clear c67
    try clear c68
    try clear c70
    try clear c73
    try clear c74
    try clear c76
    try clear c79
    try clear c80
    try clear c82
    try clear c85
    try clear c85b0
    try clear c85b1
    try clear c86
    try clear c86b0
    try clear c86b1
    try clear c87
    try clear c87b0
    try clear c87b1
    try clear c88
    try clear c89
    try clear c91
    try clear c94
    try clear c95
    try clear c97
    try clear c100
    try clear c101
    try clear c103
    try clear c106
    try clear c106b0
    try clear c106b1
    try clear c107
    try clear c108
    try clear c110
    try clear c113
    try clear c114
    try clear c116
    try clear c119
    try clear c120
    try clear c122
    try clear hcz102_0
    try clear hcz102_1
    try clear hcz104_0
    try clear hcz104_1
    try clear hcz109_0
    try clear hcz109_1
    try clear hcz111_0
    try clear hcz111_1
    try clear hcz115_0
    try clear hcz115_1
    try clear hcz117_0
    try clear hcz117_1
    try clear hcz121_0
    try clear hcz121_1
    try clear hcz123_0
    try clear hcz123_1
    try clear hcz17_0
    try clear hcz17_1
    try clear hcz19_0
    try clear hcz19_1
    try clear hcz21_0
    try clear hcz21_1
    try clear hcz22_0
    try clear hcz22_1
    try clear hcz24_0
    try clear hcz24_1
    try clear hcz25_0
    try clear hcz25_1
    try clear hcz32_0
    try clear hcz32_1
    try clear hcz34_0
    try clear hcz34_1
    try clear hcz39_0
    try clear hcz39_1
    try clear hcz41_0
    try clear hcz41_1
    try clear hcz50_0
    try clear hcz50_1
    try clear hcz52_0
    try clear hcz52_1
    try clear hcz56_0
    try clear hcz56_1
    try clear hcz58_0
    try clear hcz58_1
    try clear hcz62_0
    try clear hcz62_1
    try clear hcz64_0
    try clear hcz64_1
    try clear hcz69_0
    try clear hcz69_1
    try clear hcz71_0
    try clear hcz71_1
    try clear hcz75_0
    try clear hcz75_1
    try clear hcz77_0
    try clear hcz77_1
    try clear hcz81_0
    try clear hcz81_1
    try clear hcz83_0
    try clear hcz83_1
    try clear hcz90_0
    try clear hcz90_1
    try clear hcz92_0
    try clear hcz92_1
    try clear hcz96_0
    try clear hcz96_1
    try clear hcz98_0
    try clear hcz98_1
    try clear hfz102_0
    try clear hfz102_1
    try clear hfz104_0
    try clear hfz104_1
    try clear hfz109_0
    try clear hfz109_1
    try clear hfz111_0
    try clear hfz111_1
    try clear hfz115_0
    try clear hfz115_1
    try clear hfz117_0
    try clear hfz117_1
    try clear hfz121_0
    try clear hfz121_1
    try clear hfz123_0
    try clear hfz123_1
    try clear hfz17_0
    try clear hfz17_1
    try clear hfz19_0
    try clear hfz19_1
    try clear hfz21_0
    try clear hfz21_1
    try clear hfz22_0
    try clear hfz22_1
    try clear hfz24_0
    try clear hfz24_1
    try clear hfz25_0
    try clear hfz25_1
    try clear hfz32_0
    try clear hfz32_1
    try clear hfz34_0
    try clear hfz34_1
    try clear hfz39_0
    try clear hfz39_1
    try clear hfz41_0
    try clear hfz41_1
    try clear hfz50_0
    try clear hfz50_1
    try clear hfz52_0
    try clear hfz52_1
    try clear hfz56_0
    try clear hfz56_1
    try clear hfz58_0
    try clear hfz58_1
    try clear hfz62_0
    try clear hfz62_1
    try clear hfz64_0
    try clear hfz64_1
    try clear hfz69_0
    try clear hfz69_1
    try clear hfz71_0
    try clear hfz71_1
    try clear hfz75_0
    try clear hfz75_1
    try clear hfz77_0
    try clear hfz77_1
    try clear hfz81_0
    try clear hfz81_1
    try clear hfz83_0
    try clear hfz83_1
    try clear hfz90_0
    try clear hfz90_1
    try clear hfz92_0
    try clear hfz92_1
    try clear hfz96_0
    try clear hfz96_1
    try clear hfz98_0
    try clear hfz98_1
    obtain ⟨kq, x67_9, rfl, HA, HJ9, BK315, BK316, BK317, HB⟩ := hcut
    cases kq with
    | zero => exact absurd HA.out (by simp [decklelaw06_DecimalOrder_t.j0])
    | succ kj9 =>
      have H := HA.out
      clear HA
      simp only [decklelaw06_DecimalOrder_t.j0] at H
      by_cases c125 : x67_9 = true
      · subst c125
        rw [if_pos rfl] at H
        exact absurd (Option.some.inj H) (by rw [hr]; decide)
      · replace c125 := Bool.eq_false_iff.mpr c125
        subst c125
        rw [if_neg (show ¬ (false = true) by decide)] at H
        have HC126 := Aside0.mk H
        clear H
        go_upto_if 70 with (fail)
        go_cut [15] (fun v15 wc => ∃ (kq : Nat) (x15_125 : Int), v15 = .int .i64 x15_125 ∧ Aside0 (decklelaw06_DecimalOrder_t.j1 kq a3 a4 t318 t319 x15_125 a0_0 a0_1 a1_0 a1_1 = some r) ∧ Aside0 (kq ≤ kj9) ∧ Aside0 (wc.heap[gb315]? = some (.cells #[.int .i64 a0_0, .int .i64 a0_1] 23 (0, 0))) ∧ Aside0 (wc.heap[gb316]? = some (.cells #[.int .i64 a1_0, .int .i64 a1_1] 23 (0, 0))) ∧ Aside0 (wc.heap[gb317]? = some (.cells #[.int .i64 a2_0, .int .i64 a2_1] 23 (0, 0))) ∧ Aside0 (Below w.heap.size w wc))
        case first =>
          have H := HC126.out
          clear HC126
          by_cases c127 : a3 < a4
          · rw [if_pos c127] at H
            have c127b0 : decide (a3 < a4) = true := decide_eq_true c127
            clear c127
            (first | rw [c127b0] | (simp only [i64_w, i32_w]; rw [c127b0]) | skip)
            have H' := Aside0.mk H
            clear H
            go_wp2
            go_meet
            case rel => exact ⟨_, ((-1)), (by first | rfl | (simp; done) | (simp [*]; done)), H', ⟨by have := HJ9.out; first | omega | exact Nat.le_refl _⟩, ⟨by (with_reducible repeat (first | refine blk_drewN ?_ _ | refine blk_drew ?_ | refine blk_alloc ?_ _)); exact BK315.out⟩, ⟨by (with_reducible repeat (first | refine blk_drewN ?_ _ | refine blk_drew ?_ | refine blk_alloc ?_ _)); exact BK316.out⟩, ⟨by (with_reducible repeat (first | refine blk_drewN ?_ _ | refine blk_drew ?_ | refine blk_alloc ?_ _)); exact BK317.out⟩, ⟨by repeat (first | (with_reducible first | exact HB.out | apply below_alloc | apply pw_below_drewN | apply below_drew1 | refine below_set ?_ GE315.out | refine below_set ?_ GE316.out | refine below_set ?_ GE317.out) | exact HB.out)⟩⟩
          · rw [if_neg c127] at H
            have c127b0 : decide (a3 < a4) = false := decide_eq_false c127
            clear c127
            (first | rw [c127b0] | (simp only [i64_w, i32_w]; rw [c127b0]) | skip)
            have H' := Aside0.mk H
            clear H
            go_wp2
            go_meet
            case rel => exact ⟨_, (0), (by first | rfl | (simp; done) | (simp [*]; done)), H', ⟨by have := HJ9.out; first | omega | exact Nat.le_refl _⟩, ⟨by (with_reducible repeat (first | refine blk_drewN ?_ _ | refine blk_drew ?_ | refine blk_alloc ?_ _)); exact BK315.out⟩, ⟨by (with_reducible repeat (first | refine blk_drewN ?_ _ | refine blk_drew ?_ | refine blk_alloc ?_ _)); exact BK316.out⟩, ⟨by (with_reducible repeat (first | refine blk_drewN ?_ _ | refine blk_drew ?_ | refine blk_alloc ?_ _)); exact BK317.out⟩, ⟨by repeat (first | (with_reducible first | exact HB.out | apply below_alloc | apply pw_below_drewN | apply below_drew1 | refine below_set ?_ GE315.out | refine below_set ?_ GE316.out | refine below_set ?_ GE317.out) | exact HB.out)⟩⟩
        case rest =>
          clear HC126
          try clear c1
          try clear c2
          try clear p2
          try clear c3
          try clear c4
          try clear c5
          try clear c6
          try clear p6
          try clear c7
          try clear c8
          try clear c9
          try clear c10
          try clear c11
          try clear c12
          try clear c15
          try clear c16
          try clear c18
          try clear c22
          try clear c28
          try clear c28b0
          try clear c28b1
          try clear c29
          try clear c29b0
          try clear c30
          try clear c31
          try clear c33
          try clear c36
          try clear c36b0
          try clear c37
          try clear c38
          try clear c40
          try clear c43
          try clear c43b0
          try clear c43b1
          try clear c44
          try clear c44b0
          try clear c44b1
          try clear c45
          try clear c45b0
          try clear c45b1
          try clear c46
          try clear c46b0
          try clear c46b1
          try clear c47
          try clear c47b0
          try clear c47b1
          try clear c48
          try clear c49
          try clear c51
          try clear c54
          try clear c55
          try clear c57
          try clear c60
          try clear c61
          try clear c63
          try clear p64
          try clear c66
          try clear c66b0
          try clear c66b1
          try clear c67
          try clear c68
          try clear c70
          try clear c73
          try clear c74
          try clear c76
          try clear c79
          try clear c80
          try clear c82
          try clear c85
          try clear c85b0
          try clear c85b1
          try clear c86
          try clear c86b0
          try clear c86b1
          try clear c87
          try clear c87b0
          try clear c87b1
          try clear c88
          try clear c89
          try clear c91
          try clear c94
          try clear c95
          try clear c97
          try clear c100
          try clear c101
          try clear c103
          try clear c106
          try clear c106b0
          try clear c106b1
          try clear c107
          try clear c108
          try clear c110
          try clear c113
          try clear c114
          try clear c116
          try clear c119
          try clear c120
          try clear c122
          try clear c125
          try clear c127
          try clear c127b0
          try clear hcz102_0
          try clear hcz102_1
          try clear hcz104_0
          try clear hcz104_1
          try clear hcz109_0
          try clear hcz109_1
          try clear hcz111_0
          try clear hcz111_1
          try clear hcz115_0
          try clear hcz115_1
          try clear hcz117_0
          try clear hcz117_1
          try clear hcz121_0
          try clear hcz121_1
          try clear hcz123_0
          try clear hcz123_1
          try clear hcz17_0
          try clear hcz17_1
          try clear hcz19_0
          try clear hcz19_1
          try clear hcz21_0
          try clear hcz21_1
          try clear hcz22_0
          try clear hcz22_1
          try clear hcz24_0
          try clear hcz24_1
          try clear hcz25_0
          try clear hcz25_1
          try clear hcz32_0
          try clear hcz32_1
          try clear hcz34_0
          try clear hcz34_1
          try clear hcz39_0
          try clear hcz39_1
          try clear hcz41_0
          try clear hcz41_1
          try clear hcz50_0
          try clear hcz50_1
          try clear hcz52_0
          try clear hcz52_1
          try clear hcz56_0
          try clear hcz56_1
          try clear hcz58_0
          try clear hcz58_1
          try clear hcz62_0
          try clear hcz62_1
          try clear hcz64_0
          try clear hcz64_1
          try clear hcz69_0
          try clear hcz69_1
          try clear hcz71_0
          try clear hcz71_1
          try clear hcz75_0
          try clear hcz75_1
          try clear hcz77_0
          try clear hcz77_1
          try clear hcz81_0
          try clear hcz81_1
          try clear hcz83_0
          try clear hcz83_1
          try clear hcz90_0
          try clear hcz90_1
          try clear hcz92_0
          try clear hcz92_1
          try clear hcz96_0
          try clear hcz96_1
          try clear hcz98_0
          try clear hcz98_1
          try clear hfz102_0
          try clear hfz102_1
          try clear hfz104_0
          try clear hfz104_1
          try clear hfz109_0
          try clear hfz109_1
          try clear hfz111_0
          try clear hfz111_1
          try clear hfz115_0
          try clear hfz115_1
          try clear hfz117_0
          try clear hfz117_1
          try clear hfz121_0
          try clear hfz121_1
          try clear hfz123_0
          try clear hfz123_1
          try clear hfz17_0
          try clear hfz17_1
          try clear hfz19_0
          try clear hfz19_1
          try clear hfz21_0
          try clear hfz21_1
          try clear hfz22_0
          try clear hfz22_1
          try clear hfz24_0
          try clear hfz24_1
          try clear hfz25_0
          try clear hfz25_1
          try clear hfz32_0
          try clear hfz32_1
          try clear hfz34_0
          try clear hfz34_1
          try clear hfz39_0
          try clear hfz39_1
          try clear hfz41_0
          try clear hfz41_1
          try clear hfz50_0
          try clear hfz50_1
          try clear hfz52_0
          try clear hfz52_1
          try clear hfz56_0
          try clear hfz56_1
          try clear hfz58_0
          try clear hfz58_1
          try clear hfz62_0
          try clear hfz62_1
          try clear hfz64_0
          try clear hfz64_1
          try clear hfz69_0
          try clear hfz69_1
          try clear hfz71_0
          try clear hfz71_1
          try clear hfz75_0
          try clear hfz75_1
          try clear hfz77_0
          try clear hfz77_1
          try clear hfz81_0
          try clear hfz81_1
          try clear hfz83_0
          try clear hfz83_1
          try clear hfz90_0
          try clear hfz90_1
          try clear hfz92_0
          try clear hfz92_1
          try clear hfz96_0
          try clear hfz96_1
          try clear hfz98_0
          try clear hfz98_1
          try clear p2
          try clear p6
          try clear p64
          obtain ⟨kq, x15_125, rfl, HA, HJ125, BK315, BK316, BK317, HB⟩ := hcut
          cases kq with
          | zero => exact absurd HA.out (by simp [decklelaw06_DecimalOrder_t.j1])
          | succ kj125 =>
            have H := HA.out
            clear HA
            simp only [decklelaw06_DecimalOrder_t.j1] at H
            have HC128 := Aside0.mk H
            clear H
            go_upto_if 73 with (fail)
            go_cut [15] (fun v15 wc => ∃ (kq : Nat) (x15_127 : Int), v15 = .int .i64 x15_127 ∧ Aside0 (decklelaw06_DecimalOrder_t.j2 kq a3 a4 t318 t319 x15_127 a0_0 a0_1 a1_0 a1_1 = some r) ∧ Aside0 (kq ≤ kj125) ∧ Aside0 (wc.heap[gb315]? = some (.cells #[.int .i64 a0_0, .int .i64 a0_1] 23 (0, 0))) ∧ Aside0 (wc.heap[gb316]? = some (.cells #[.int .i64 a1_0, .int .i64 a1_1] 23 (0, 0))) ∧ Aside0 (wc.heap[gb317]? = some (.cells #[.int .i64 a2_0, .int .i64 a2_1] 23 (0, 0))) ∧ Aside0 (Below w.heap.size w wc))
            case first =>
              have H := HC128.out
              clear HC128
              by_cases c129 : a3 > a4
              · rw [if_pos c129] at H
                have c129b0 : decide (a4 < a3) = true := decide_eq_true c129
                clear c129
                (first | rw [c129b0] | (simp only [i64_w, i32_w]; rw [c129b0]) | skip)
                have H' := Aside0.mk H
                clear H
                go_wp2
                go_meet
                case rel => exact ⟨_, (1), (by first | rfl | (simp; done) | (simp [*]; done)), H', ⟨by have := HJ9.out; have := HJ125.out; first | omega | exact Nat.le_refl _⟩, ⟨by (with_reducible repeat (first | refine blk_drewN ?_ _ | refine blk_drew ?_ | refine blk_alloc ?_ _)); exact BK315.out⟩, ⟨by (with_reducible repeat (first | refine blk_drewN ?_ _ | refine blk_drew ?_ | refine blk_alloc ?_ _)); exact BK316.out⟩, ⟨by (with_reducible repeat (first | refine blk_drewN ?_ _ | refine blk_drew ?_ | refine blk_alloc ?_ _)); exact BK317.out⟩, ⟨by repeat (first | (with_reducible first | exact HB.out | apply below_alloc | apply pw_below_drewN | apply below_drew1 | refine below_set ?_ GE315.out | refine below_set ?_ GE316.out | refine below_set ?_ GE317.out) | exact HB.out)⟩⟩
              · rw [if_neg c129] at H
                have c129b0 : decide (a4 < a3) = false := decide_eq_false c129
                clear c129
                (first | rw [c129b0] | (simp only [i64_w, i32_w]; rw [c129b0]) | skip)
                have H' := Aside0.mk H
                clear H
                go_wp2
                go_meet
                case rel => exact ⟨_, (x15_125), (by first | rfl | (simp; done) | (simp [*]; done)), H', ⟨by have := HJ9.out; have := HJ125.out; first | omega | exact Nat.le_refl _⟩, ⟨by (with_reducible repeat (first | refine blk_drewN ?_ _ | refine blk_drew ?_ | refine blk_alloc ?_ _)); exact BK315.out⟩, ⟨by (with_reducible repeat (first | refine blk_drewN ?_ _ | refine blk_drew ?_ | refine blk_alloc ?_ _)); exact BK316.out⟩, ⟨by (with_reducible repeat (first | refine blk_drewN ?_ _ | refine blk_drew ?_ | refine blk_alloc ?_ _)); exact BK317.out⟩, ⟨by repeat (first | (with_reducible first | exact HB.out | apply below_alloc | apply pw_below_drewN | apply below_drew1 | refine below_set ?_ GE315.out | refine below_set ?_ GE316.out | refine below_set ?_ GE317.out) | exact HB.out)⟩⟩
            case rest =>
              clear HC128
              try clear c1
              try clear c2
              try clear p2
              try clear c3
              try clear c4
              try clear c5
              try clear c6
              try clear p6
              try clear c7
              try clear c8
              try clear c9
              try clear c10
              try clear c11
              try clear c12
              try clear c15
              try clear c16
              try clear c18
              try clear c22
              try clear c28
              try clear c28b0
              try clear c28b1
              try clear c29
              try clear c29b0
              try clear c30
              try clear c31
              try clear c33
              try clear c36
              try clear c36b0
              try clear c37
              try clear c38
              try clear c40
              try clear c43
              try clear c43b0
              try clear c43b1
              try clear c44
              try clear c44b0
              try clear c44b1
              try clear c45
              try clear c45b0
              try clear c45b1
              try clear c46
              try clear c46b0
              try clear c46b1
              try clear c47
              try clear c47b0
              try clear c47b1
              try clear c48
              try clear c49
              try clear c51
              try clear c54
              try clear c55
              try clear c57
              try clear c60
              try clear c61
              try clear c63
              try clear p64
              try clear c66
              try clear c66b0
              try clear c66b1
              try clear c67
              try clear c68
              try clear c70
              try clear c73
              try clear c74
              try clear c76
              try clear c79
              try clear c80
              try clear c82
              try clear c85
              try clear c85b0
              try clear c85b1
              try clear c86
              try clear c86b0
              try clear c86b1
              try clear c87
              try clear c87b0
              try clear c87b1
              try clear c88
              try clear c89
              try clear c91
              try clear c94
              try clear c95
              try clear c97
              try clear c100
              try clear c101
              try clear c103
              try clear c106
              try clear c106b0
              try clear c106b1
              try clear c107
              try clear c108
              try clear c110
              try clear c113
              try clear c114
              try clear c116
              try clear c119
              try clear c120
              try clear c122
              try clear c125
              try clear c127
              try clear c127b0
              try clear c129
              try clear c129b0
              try clear hcz102_0
              try clear hcz102_1
              try clear hcz104_0
              try clear hcz104_1
              try clear hcz109_0
              try clear hcz109_1
              try clear hcz111_0
              try clear hcz111_1
              try clear hcz115_0
              try clear hcz115_1
              try clear hcz117_0
              try clear hcz117_1
              try clear hcz121_0
              try clear hcz121_1
              try clear hcz123_0
              try clear hcz123_1
              try clear hcz17_0
              try clear hcz17_1
              try clear hcz19_0
              try clear hcz19_1
              try clear hcz21_0
              try clear hcz21_1
              try clear hcz22_0
              try clear hcz22_1
              try clear hcz24_0
              try clear hcz24_1
              try clear hcz25_0
              try clear hcz25_1
              try clear hcz32_0
              try clear hcz32_1
              try clear hcz34_0
              try clear hcz34_1
              try clear hcz39_0
              try clear hcz39_1
              try clear hcz41_0
              try clear hcz41_1
              try clear hcz50_0
              try clear hcz50_1
              try clear hcz52_0
              try clear hcz52_1
              try clear hcz56_0
              try clear hcz56_1
              try clear hcz58_0
              try clear hcz58_1
              try clear hcz62_0
              try clear hcz62_1
              try clear hcz64_0
              try clear hcz64_1
              try clear hcz69_0
              try clear hcz69_1
              try clear hcz71_0
              try clear hcz71_1
              try clear hcz75_0
              try clear hcz75_1
              try clear hcz77_0
              try clear hcz77_1
              try clear hcz81_0
              try clear hcz81_1
              try clear hcz83_0
              try clear hcz83_1
              try clear hcz90_0
              try clear hcz90_1
              try clear hcz92_0
              try clear hcz92_1
              try clear hcz96_0
              try clear hcz96_1
              try clear hcz98_0
              try clear hcz98_1
              try clear hfz102_0
              try clear hfz102_1
              try clear hfz104_0
              try clear hfz104_1
              try clear hfz109_0
              try clear hfz109_1
              try clear hfz111_0
              try clear hfz111_1
              try clear hfz115_0
              try clear hfz115_1
              try clear hfz117_0
              try clear hfz117_1
              try clear hfz121_0
              try clear hfz121_1
              try clear hfz123_0
              try clear hfz123_1
              try clear hfz17_0
              try clear hfz17_1
              try clear hfz19_0
              try clear hfz19_1
              try clear hfz21_0
              try clear hfz21_1
              try clear hfz22_0
              try clear hfz22_1
              try clear hfz24_0
              try clear hfz24_1
              try clear hfz25_0
              try clear hfz25_1
              try clear hfz32_0
              try clear hfz32_1
              try clear hfz34_0
              try clear hfz34_1
              try clear hfz39_0
              try clear hfz39_1
              try clear hfz41_0
              try clear hfz41_1
              try clear hfz50_0
              try clear hfz50_1
              try clear hfz52_0
              try clear hfz52_1
              try clear hfz56_0
              try clear hfz56_1
              try clear hfz58_0
              try clear hfz58_1
              try clear hfz62_0
              try clear hfz62_1
              try clear hfz64_0
              try clear hfz64_1
              try clear hfz69_0
              try clear hfz69_1
              try clear hfz71_0
              try clear hfz71_1
              try clear hfz75_0
              try clear hfz75_1
              try clear hfz77_0
              try clear hfz77_1
              try clear hfz81_0
              try clear hfz81_1
              try clear hfz83_0
              try clear hfz83_1
              try clear hfz90_0
              try clear hfz90_1
              try clear hfz92_0
              try clear hfz92_1
              try clear hfz96_0
              try clear hfz96_1
              try clear hfz98_0
              try clear hfz98_1
              try clear p2
              try clear p6
              try clear p64
              obtain ⟨kq, x15_127, rfl, HA, HJ127, BK315, BK316, BK317, HB⟩ := hcut
              cases kq with
              | zero => exact absurd HA.out (by simp [decklelaw06_DecimalOrder_t.j2])
              | succ kj127 =>
                have H := HA.out
                clear HA
                simp only [decklelaw06_DecimalOrder_t.j2] at H
                replace H := Option.bind_eq_some_iff.mp H
                obtain ⟨⟨t323, t324⟩, A1300, H⟩ := H
                try dsimp only at H
                have A130 := Aside0.mk A1300; clear A1300
                replace H := Option.bind_eq_some_iff.mp H
                obtain ⟨⟨t325, t326⟩, A1310, H⟩ := H
                try dsimp only at H
                have A131 := Aside0.mk A1310; clear A1310
                replace H := Option.bind_eq_some_iff.mp H
                obtain ⟨t327, A1320, H⟩ := H
                have A132 := Aside0.mk A1320; clear A1320
                by_cases c133 : t327 = x15_127
                · rw [if_pos c133] at H
                  have c133b0 : (t327 == x15_127) = true := beq_iff_eq.mpr c133
                  have c133b1 : (t327 != x15_127) = false := bne_eq_false_iff_eq.mpr c133
                  clear c133
                  have HC134 := Aside0.mk H
                  clear H
                  go_upto_region 14 with (first | ((with_reducible refine gate_callee (f := 18) rfl ?_); refine goesL_ (some 75) rfl rfl Tryd.func18 (by kernel_rfl) rfl #[.int .i64 a3] rfl (by (try simp only [List.map_toArray, List.map_cons, List.map_nil]); first | done | rfl | (simp only [List.length_drop, List.length_take]; rfl)) ?_; (with_reducible refine (decimal_Of.calls kj127 a3 t323 t324 _ ?side1 A130.out).mono ?_); (case side1 => first | exact hT | exact Tabs.below hT (by repeat (first | (with_reducible first | exact HB.out | apply below_alloc | apply pw_below_drewN | apply below_drew1 | refine below_set ?_ GE315.out | refine below_set ?_ GE316.out | refine below_set ?_ GE317.out) | exact HB.out)) | ((repeat (first | exact hT | apply Tabs.drewN | apply Tabs.drew)); done)); rintro e w135 ⟨rfl, hb⟩; refine ⟨_, rfl, ?_⟩; have n0_ := Aside0.mk (blk_below (g := gb315) (o := .cells #[.int .i64 a0_0, .int .i64 a0_1] 23 (0, 0)) (by (with_reducible repeat (first | refine blk_drewN ?_ _ | refine blk_drew ?_ | refine blk_alloc ?_ _)); exact BK315.out) hb); have n1_ := Aside0.mk (blk_below (g := gb316) (o := .cells #[.int .i64 a1_0, .int .i64 a1_1] 23 (0, 0)) (by (with_reducible repeat (first | refine blk_drewN ?_ _ | refine blk_drew ?_ | refine blk_alloc ?_ _)); exact BK316.out) hb); have n2_ := Aside0.mk (blk_below (g := gb317) (o := .cells #[.int .i64 a2_0, .int .i64 a2_1] 23 (0, 0)) (by (with_reducible repeat (first | refine blk_drewN ?_ _ | refine blk_drew ?_ | refine blk_alloc ?_ _)); exact BK317.out) hb); have n3_ := Aside0.mk (below_step (by repeat (first | (with_reducible first | exact HB.out | apply below_alloc | apply pw_below_drewN | apply below_drew1 | refine below_set ?_ GE315.out | refine below_set ?_ GE316.out | refine below_set ?_ GE317.out) | exact HB.out)) hb); clear BK315; clear BK316; clear BK317; clear HB; have BK315 := n0_; have BK316 := n1_; have BK317 := n2_; have HB := n3_; clear n0_ n1_ n2_ n3_; (try clear hb); (try clear hb2); (try clear hk); (try clear hi)) | ((with_reducible refine gate_callee (f := 18) rfl ?_); refine goesL_ (some 77) rfl rfl Tryd.func18 (by kernel_rfl) rfl #[.int .i64 a4] rfl (by (try simp only [List.map_toArray, List.map_cons, List.map_nil]); first | done | rfl | (simp only [List.length_drop, List.length_take]; rfl)) ?_; (with_reducible refine (decimal_Of.calls kj127 a4 t325 t326 _ ?side1 A131.out).mono ?_); (case side1 => first | exact hT | exact Tabs.below hT (by repeat (first | (with_reducible first | exact HB.out | apply below_alloc | apply pw_below_drewN | apply below_drew1 | refine below_set ?_ GE315.out | refine below_set ?_ GE316.out | refine below_set ?_ GE317.out) | exact HB.out)) | ((repeat (first | exact hT | apply Tabs.drewN | apply Tabs.drew)); done)); rintro e w136 ⟨rfl, hb⟩; refine ⟨_, rfl, ?_⟩; have n0_ := Aside0.mk (blk_below (g := gb315) (o := .cells #[.int .i64 a0_0, .int .i64 a0_1] 23 (0, 0)) (by (with_reducible repeat (first | refine blk_drewN ?_ _ | refine blk_drew ?_ | refine blk_alloc ?_ _)); exact BK315.out) hb); have n1_ := Aside0.mk (blk_below (g := gb316) (o := .cells #[.int .i64 a1_0, .int .i64 a1_1] 23 (0, 0)) (by (with_reducible repeat (first | refine blk_drewN ?_ _ | refine blk_drew ?_ | refine blk_alloc ?_ _)); exact BK316.out) hb); have n2_ := Aside0.mk (blk_below (g := gb317) (o := .cells #[.int .i64 a2_0, .int .i64 a2_1] 23 (0, 0)) (by (with_reducible repeat (first | refine blk_drewN ?_ _ | refine blk_drew ?_ | refine blk_alloc ?_ _)); exact BK317.out) hb); have n3_ := Aside0.mk (below_step (by repeat (first | (with_reducible first | exact HB.out | apply below_alloc | apply pw_below_drewN | apply below_drew1 | refine below_set ?_ GE315.out | refine below_set ?_ GE316.out | refine below_set ?_ GE317.out) | exact HB.out)) hb); clear BK315; clear BK316; clear BK317; clear HB; have BK315 := n0_; have BK316 := n1_; have BK317 := n2_; have HB := n3_; clear n0_ n1_ n2_ n3_; (try clear hb); (try clear hb2); (try clear hk); (try clear hi)) | ((with_reducible refine gate_callee (f := 22) rfl ?_); refine goesL_ (some 78) rfl rfl Tryd.func22 (by kernel_rfl) rfl #[.agg #[.int .i64 t323, .int .i64 t324], .agg #[.int .i64 t325, .int .i64 t326]] rfl (by (try simp only [List.map_toArray, List.map_cons, List.map_nil]); first | done | rfl | (simp only [List.length_drop, List.length_take]; rfl)) ?_; (with_reducible refine (decimal_Compare.calls kj127 t323 t324 t325 t326 t327 _ ?side1 A132.out).mono ?_); (case side1 => first | exact hT | exact Tabs.below hT (by repeat (first | (with_reducible first | exact HB.out | apply below_alloc | apply pw_below_drewN | apply below_drew1 | refine below_set ?_ GE315.out | refine below_set ?_ GE316.out | refine below_set ?_ GE317.out) | exact HB.out)) | ((repeat (first | exact hT | apply Tabs.drewN | apply Tabs.drew)); done)); rintro e w137 ⟨rfl, hb⟩; refine ⟨_, rfl, ?_⟩; have n0_ := Aside0.mk (blk_below (g := gb315) (o := .cells #[.int .i64 a0_0, .int .i64 a0_1] 23 (0, 0)) (by (with_reducible repeat (first | refine blk_drewN ?_ _ | refine blk_drew ?_ | refine blk_alloc ?_ _)); exact BK315.out) hb); have n1_ := Aside0.mk (blk_below (g := gb316) (o := .cells #[.int .i64 a1_0, .int .i64 a1_1] 23 (0, 0)) (by (with_reducible repeat (first | refine blk_drewN ?_ _ | refine blk_drew ?_ | refine blk_alloc ?_ _)); exact BK316.out) hb); have n2_ := Aside0.mk (blk_below (g := gb317) (o := .cells #[.int .i64 a2_0, .int .i64 a2_1] 23 (0, 0)) (by (with_reducible repeat (first | refine blk_drewN ?_ _ | refine blk_drew ?_ | refine blk_alloc ?_ _)); exact BK317.out) hb); have n3_ := Aside0.mk (below_step (by repeat (first | (with_reducible first | exact HB.out | apply below_alloc | apply pw_below_drewN | apply below_drew1 | refine below_set ?_ GE315.out | refine below_set ?_ GE316.out | refine below_set ?_ GE317.out) | exact HB.out)) hb); clear BK315; clear BK316; clear BK317; clear HB; have BK315 := n0_; have BK316 := n1_; have BK317 := n2_; have HB := n3_; clear n0_ n1_ n2_ n3_; (try clear hb); (try clear hb2); (try clear hk); (try clear hi)))
                  (try simp only [Act.put, List.setIfInBounds_toArray, List.set_cons_zero, List.set_cons_succ])
                  go_cut [96] (fun v96 wc => ∃ (kq : Nat) (x96_133 : Bool), v96 = .bool x96_133 ∧ Aside0 (decklelaw06_DecimalOrder_t.j3 kq t318 t319 x96_133 a0_0 a0_1 a1_0 a1_1 = some r) ∧ Aside0 (kq ≤ kj127) ∧ Aside0 (wc.heap[gb315]? = some (.cells #[.int .i64 a0_0, .int .i64 a0_1] 23 (0, 0))) ∧ Aside0 (wc.heap[gb316]? = some (.cells #[.int .i64 a1_0, .int .i64 a1_1] 23 (0, 0))) ∧ Aside0 (wc.heap[gb317]? = some (.cells #[.int .i64 a2_0, .int .i64 a2_1] 23 (0, 0))) ∧ Aside0 (Below w.heap.size w wc))
                  case first =>
                    have H := HC134.out
                    clear HC134
                    replace H := Option.bind_eq_some_iff.mp H
                    obtain ⟨t328, A1380, H⟩ := H
                    have A138 := Aside0.mk A1380; clear A1380
                    by_cases c139 : t328 = true
                    · subst c139
                      rw [if_pos rfl] at H
                      replace H := Option.bind_eq_some_iff.mp H
                      obtain ⟨t329, A1400, H⟩ := H
                      have A140 := Aside0.mk A1400; clear A1400
                      by_cases c141 : t329 = true
                      · subst c141
                        rw [if_pos rfl] at H
                        by_cases c142 : a0_0 > (-9223372036854775808)
                        · rw [if_pos c142] at H
                          have c142b0 : decide ((-9223372036854775808) < a0_0) = true := decide_eq_true c142
                          clear c142
                          (first | rw [c142b0] | (simp only [i64_w, i32_w]; rw [c142b0]) | skip)
                          have H' := Aside0.mk H
                          clear H
                          have hnb143 := NB315_316.out
                          have hnc143 := NB316_315.out
                          have hnb144 := NB315_317.out
                          have hnc144 := NB317_315.out
                          have hcz145_0 : w137.cell? ⟨gb315, 0, none⟩ = some (.int .i64 a0_0) := (blk_cell BK315.out 0).trans rfl
                          have hcz145_1 : w137.cell? ⟨gb315, 1, none⟩ = some (.int .i64 a0_1) := (blk_cell BK315.out 1).trans rfl
                          have hfz145_0 := blk_frozen BK315.out 0
                          have hfz145_1 := blk_frozen BK315.out 1
                          go_wp2_with (first | ((with_reducible refine gate_callee (f := 16) rfl ?_); refine goesL_ (some 82) rfl rfl Tryd.func16 (by kernel_rfl) rfl #[.agg #[.int .i64 a0_0, .int .i64 a0_1]] rfl (by (try simp only [List.map_toArray, List.map_cons, List.map_nil]); first | done | rfl | (simp only [List.length_drop, List.length_take]; rfl)) ?_; (with_reducible refine (decimal_Right.calls kj127 a0_0 a0_1 true _ ?side1 A138.out).mono ?_); (case side1 => first | exact hT | exact Tabs.below hT (by repeat (first | (with_reducible first | exact HB.out | apply below_alloc | apply pw_below_drewN | apply below_drew1 | refine below_set ?_ GE315.out | refine below_set ?_ GE316.out | refine below_set ?_ GE317.out) | exact HB.out)) | ((repeat (first | exact hT | apply Tabs.drewN | apply Tabs.drew)); done)); rintro e w146 ⟨rfl, hb⟩; refine ⟨_, rfl, ?_⟩; have n0_ := Aside0.mk (blk_below (g := gb315) (o := .cells #[.int .i64 a0_0, .int .i64 a0_1] 23 (0, 0)) (by (with_reducible repeat (first | refine blk_drewN ?_ _ | refine blk_drew ?_ | refine blk_alloc ?_ _)); exact BK315.out) hb); have n1_ := Aside0.mk (blk_below (g := gb316) (o := .cells #[.int .i64 a1_0, .int .i64 a1_1] 23 (0, 0)) (by (with_reducible repeat (first | refine blk_drewN ?_ _ | refine blk_drew ?_ | refine blk_alloc ?_ _)); exact BK316.out) hb); have n2_ := Aside0.mk (blk_below (g := gb317) (o := .cells #[.int .i64 a2_0, .int .i64 a2_1] 23 (0, 0)) (by (with_reducible repeat (first | refine blk_drewN ?_ _ | refine blk_drew ?_ | refine blk_alloc ?_ _)); exact BK317.out) hb); have n3_ := Aside0.mk (below_step (by repeat (first | (with_reducible first | exact HB.out | apply below_alloc | apply pw_below_drewN | apply below_drew1 | refine below_set ?_ GE315.out | refine below_set ?_ GE316.out | refine below_set ?_ GE317.out) | exact HB.out)) hb); clear BK315; clear BK316; clear BK317; clear HB; have BK315 := n0_; have BK316 := n1_; have BK317 := n2_; have HB := n3_; clear n0_ n1_ n2_ n3_; (try clear hb); (try clear hb2); (try clear hk); (try clear hi); have hnb147 := NB316_317.out; have hnc147 := NB317_316.out; have hcz148_0 : w146.cell? ⟨gb316, 0, none⟩ = some (.int .i64 a1_0) := (blk_cell BK316.out 0).trans rfl; have hcz148_1 : w146.cell? ⟨gb316, 1, none⟩ = some (.int .i64 a1_1) := (blk_cell BK316.out 1).trans rfl; have hfz148_0 := blk_frozen BK316.out 0; have hfz148_1 := blk_frozen BK316.out 1) | (go_at_call 16; (with_reducible refine (decimal_Right.calls kj127 a1_0 a1_1 true _ ?side1 A140.out).mono ?_); (case side1 => first | exact hT | exact Tabs.below hT (by repeat (first | (with_reducible first | exact HB.out | apply below_alloc | apply pw_below_drewN | apply below_drew1 | refine below_set ?_ GE315.out | refine below_set ?_ GE316.out | refine below_set ?_ GE317.out) | exact HB.out)) | ((repeat (first | exact hT | apply Tabs.drewN | apply Tabs.drew)); done)); rintro e w149 ⟨rfl, hb⟩; have n0_ := Aside0.mk (blk_below (g := gb315) (o := .cells #[.int .i64 a0_0, .int .i64 a0_1] 23 (0, 0)) (by (with_reducible repeat (first | refine blk_drewN ?_ _ | refine blk_drew ?_ | refine blk_alloc ?_ _)); exact BK315.out) hb); have n1_ := Aside0.mk (blk_below (g := gb316) (o := .cells #[.int .i64 a1_0, .int .i64 a1_1] 23 (0, 0)) (by (with_reducible repeat (first | refine blk_drewN ?_ _ | refine blk_drew ?_ | refine blk_alloc ?_ _)); exact BK316.out) hb); have n2_ := Aside0.mk (blk_below (g := gb317) (o := .cells #[.int .i64 a2_0, .int .i64 a2_1] 23 (0, 0)) (by (with_reducible repeat (first | refine blk_drewN ?_ _ | refine blk_drew ?_ | refine blk_alloc ?_ _)); exact BK317.out) hb); have n3_ := Aside0.mk (below_step (by repeat (first | (with_reducible first | exact HB.out | apply below_alloc | apply pw_below_drewN | apply below_drew1 | refine below_set ?_ GE315.out | refine below_set ?_ GE316.out | refine below_set ?_ GE317.out) | exact HB.out)) hb); clear BK315; clear BK316; clear BK317; clear HB; have BK315 := n0_; have BK316 := n1_; have BK317 := n2_; have HB := n3_; clear n0_ n1_ n2_ n3_; (try clear hb); (try clear hb2); (try clear hk); (try clear hi); have hcz150_0 : w149.cell? ⟨gb315, 0, none⟩ = some (.int .i64 a0_0) := (blk_cell BK315.out 0).trans rfl; have hcz150_1 : w149.cell? ⟨gb315, 1, none⟩ = some (.int .i64 a0_1) := (blk_cell BK315.out 1).trans rfl; have hfz150_0 := blk_frozen BK315.out 0; have hfz150_1 := blk_frozen BK315.out 1; have hcz151_0 : w149.cell? ⟨gb316, 0, none⟩ = some (.int .i64 a1_0) := (blk_cell BK316.out 0).trans rfl; have hcz151_1 : w149.cell? ⟨gb316, 1, none⟩ = some (.int .i64 a1_1) := (blk_cell BK316.out 1).trans rfl; have hfz151_0 := blk_frozen BK316.out 0; have hfz151_1 := blk_frozen BK316.out 1))
                          go_meet
                          case rel => exact ⟨_, (decide (a1_0 > (-9223372036854775808))), (by first | rfl | (simp; done) | (simp [*]; done)), H', ⟨by have := HJ9.out; have := HJ125.out; have := HJ127.out; first | omega | exact Nat.le_refl _⟩, ⟨by (with_reducible repeat (first | refine blk_drewN ?_ _ | refine blk_drew ?_ | refine blk_alloc ?_ _)); exact BK315.out⟩, ⟨by (with_reducible repeat (first | refine blk_drewN ?_ _ | refine blk_drew ?_ | refine blk_alloc ?_ _)); exact BK316.out⟩, ⟨by (with_reducible repeat (first | refine blk_drewN ?_ _ | refine blk_drew ?_ | refine blk_alloc ?_ _)); exact BK317.out⟩, ⟨by repeat (first | (with_reducible first | exact HB.out | apply below_alloc | apply pw_below_drewN | apply below_drew1 | refine below_set ?_ GE315.out | refine below_set ?_ GE316.out | refine below_set ?_ GE317.out) | exact HB.out)⟩⟩
                        · rw [if_neg c142] at H
                          have c142b0 : decide ((-9223372036854775808) < a0_0) = false := decide_eq_false c142
                          clear c142
                          (first | rw [c142b0] | (simp only [i64_w, i32_w]; rw [c142b0]) | skip)
                          have H' := Aside0.mk H
                          clear H
                          have hnb152 := NB315_316.out
                          have hnc152 := NB316_315.out
                          have hnb153 := NB315_317.out
                          have hnc153 := NB317_315.out
                          have hcz154_0 : w137.cell? ⟨gb315, 0, none⟩ = some (.int .i64 a0_0) := (blk_cell BK315.out 0).trans rfl
                          have hcz154_1 : w137.cell? ⟨gb315, 1, none⟩ = some (.int .i64 a0_1) := (blk_cell BK315.out 1).trans rfl
                          have hfz154_0 := blk_frozen BK315.out 0
                          have hfz154_1 := blk_frozen BK315.out 1
                          go_wp2_with (first | ((with_reducible refine gate_callee (f := 16) rfl ?_); refine goesL_ (some 82) rfl rfl Tryd.func16 (by kernel_rfl) rfl #[.agg #[.int .i64 a0_0, .int .i64 a0_1]] rfl (by (try simp only [List.map_toArray, List.map_cons, List.map_nil]); first | done | rfl | (simp only [List.length_drop, List.length_take]; rfl)) ?_; (with_reducible refine (decimal_Right.calls kj127 a0_0 a0_1 true _ ?side1 A138.out).mono ?_); (case side1 => first | exact hT | exact Tabs.below hT (by repeat (first | (with_reducible first | exact HB.out | apply below_alloc | apply pw_below_drewN | apply below_drew1 | refine below_set ?_ GE315.out | refine below_set ?_ GE316.out | refine below_set ?_ GE317.out) | exact HB.out)) | ((repeat (first | exact hT | apply Tabs.drewN | apply Tabs.drew)); done)); rintro e w155 ⟨rfl, hb⟩; refine ⟨_, rfl, ?_⟩; have n0_ := Aside0.mk (blk_below (g := gb315) (o := .cells #[.int .i64 a0_0, .int .i64 a0_1] 23 (0, 0)) (by (with_reducible repeat (first | refine blk_drewN ?_ _ | refine blk_drew ?_ | refine blk_alloc ?_ _)); exact BK315.out) hb); have n1_ := Aside0.mk (blk_below (g := gb316) (o := .cells #[.int .i64 a1_0, .int .i64 a1_1] 23 (0, 0)) (by (with_reducible repeat (first | refine blk_drewN ?_ _ | refine blk_drew ?_ | refine blk_alloc ?_ _)); exact BK316.out) hb); have n2_ := Aside0.mk (blk_below (g := gb317) (o := .cells #[.int .i64 a2_0, .int .i64 a2_1] 23 (0, 0)) (by (with_reducible repeat (first | refine blk_drewN ?_ _ | refine blk_drew ?_ | refine blk_alloc ?_ _)); exact BK317.out) hb); have n3_ := Aside0.mk (below_step (by repeat (first | (with_reducible first | exact HB.out | apply below_alloc | apply pw_below_drewN | apply below_drew1 | refine below_set ?_ GE315.out | refine below_set ?_ GE316.out | refine below_set ?_ GE317.out) | exact HB.out)) hb); clear BK315; clear BK316; clear BK317; clear HB; have BK315 := n0_; have BK316 := n1_; have BK317 := n2_; have HB := n3_; clear n0_ n1_ n2_ n3_; (try clear hb); (try clear hb2); (try clear hk); (try clear hi); have hnb156 := NB316_317.out; have hnc156 := NB317_316.out; have hcz157_0 : w155.cell? ⟨gb316, 0, none⟩ = some (.int .i64 a1_0) := (blk_cell BK316.out 0).trans rfl; have hcz157_1 : w155.cell? ⟨gb316, 1, none⟩ = some (.int .i64 a1_1) := (blk_cell BK316.out 1).trans rfl; have hfz157_0 := blk_frozen BK316.out 0; have hfz157_1 := blk_frozen BK316.out 1) | (go_at_call 16; (with_reducible refine (decimal_Right.calls kj127 a1_0 a1_1 true _ ?side1 A140.out).mono ?_); (case side1 => first | exact hT | exact Tabs.below hT (by repeat (first | (with_reducible first | exact HB.out | apply below_alloc | apply pw_below_drewN | apply below_drew1 | refine below_set ?_ GE315.out | refine below_set ?_ GE316.out | refine below_set ?_ GE317.out) | exact HB.out)) | ((repeat (first | exact hT | apply Tabs.drewN | apply Tabs.drew)); done)); rintro e w158 ⟨rfl, hb⟩; have n0_ := Aside0.mk (blk_below (g := gb315) (o := .cells #[.int .i64 a0_0, .int .i64 a0_1] 23 (0, 0)) (by (with_reducible repeat (first | refine blk_drewN ?_ _ | refine blk_drew ?_ | refine blk_alloc ?_ _)); exact BK315.out) hb); have n1_ := Aside0.mk (blk_below (g := gb316) (o := .cells #[.int .i64 a1_0, .int .i64 a1_1] 23 (0, 0)) (by (with_reducible repeat (first | refine blk_drewN ?_ _ | refine blk_drew ?_ | refine blk_alloc ?_ _)); exact BK316.out) hb); have n2_ := Aside0.mk (blk_below (g := gb317) (o := .cells #[.int .i64 a2_0, .int .i64 a2_1] 23 (0, 0)) (by (with_reducible repeat (first | refine blk_drewN ?_ _ | refine blk_drew ?_ | refine blk_alloc ?_ _)); exact BK317.out) hb); have n3_ := Aside0.mk (below_step (by repeat (first | (with_reducible first | exact HB.out | apply below_alloc | apply pw_below_drewN | apply below_drew1 | refine below_set ?_ GE315.out | refine below_set ?_ GE316.out | refine below_set ?_ GE317.out) | exact HB.out)) hb); clear BK315; clear BK316; clear BK317; clear HB; have BK315 := n0_; have BK316 := n1_; have BK317 := n2_; have HB := n3_; clear n0_ n1_ n2_ n3_; (try clear hb); (try clear hb2); (try clear hk); (try clear hi); have hcz159_0 : w158.cell? ⟨gb315, 0, none⟩ = some (.int .i64 a0_0) := (blk_cell BK315.out 0).trans rfl; have hcz159_1 : w158.cell? ⟨gb315, 1, none⟩ = some (.int .i64 a0_1) := (blk_cell BK315.out 1).trans rfl; have hfz159_0 := blk_frozen BK315.out 0; have hfz159_1 := blk_frozen BK315.out 1))
                          go_meet
                          case rel => exact ⟨_, (false), (by first | rfl | (simp; done) | (simp [*]; done)), H', ⟨by have := HJ9.out; have := HJ125.out; have := HJ127.out; first | omega | exact Nat.le_refl _⟩, ⟨by (with_reducible repeat (first | refine blk_drewN ?_ _ | refine blk_drew ?_ | refine blk_alloc ?_ _)); exact BK315.out⟩, ⟨by (with_reducible repeat (first | refine blk_drewN ?_ _ | refine blk_drew ?_ | refine blk_alloc ?_ _)); exact BK316.out⟩, ⟨by (with_reducible repeat (first | refine blk_drewN ?_ _ | refine blk_drew ?_ | refine blk_alloc ?_ _)); exact BK317.out⟩, ⟨by repeat (first | (with_reducible first | exact HB.out | apply below_alloc | apply pw_below_drewN | apply below_drew1 | refine below_set ?_ GE315.out | refine below_set ?_ GE316.out | refine below_set ?_ GE317.out) | exact HB.out)⟩⟩
                      · replace c141 := Bool.eq_false_iff.mpr c141
                        subst c141
                        rw [if_neg (show ¬ (false = true) by decide)] at H
                        have H' := Aside0.mk H
                        clear H
                        have hnb160 := NB315_316.out
                        have hnc160 := NB316_315.out
                        have hnb161 := NB315_317.out
                        have hnc161 := NB317_315.out
                        have hcz162_0 : w137.cell? ⟨gb315, 0, none⟩ = some (.int .i64 a0_0) := (blk_cell BK315.out 0).trans rfl
                        have hcz162_1 : w137.cell? ⟨gb315, 1, none⟩ = some (.int .i64 a0_1) := (blk_cell BK315.out 1).trans rfl
                        have hfz162_0 := blk_frozen BK315.out 0
                        have hfz162_1 := blk_frozen BK315.out 1
                        go_wp2_with (first | ((with_reducible refine gate_callee (f := 16) rfl ?_); refine goesL_ (some 82) rfl rfl Tryd.func16 (by kernel_rfl) rfl #[.agg #[.int .i64 a0_0, .int .i64 a0_1]] rfl (by (try simp only [List.map_toArray, List.map_cons, List.map_nil]); first | done | rfl | (simp only [List.length_drop, List.length_take]; rfl)) ?_; (with_reducible refine (decimal_Right.calls kj127 a0_0 a0_1 true _ ?side1 A138.out).mono ?_); (case side1 => first | exact hT | exact Tabs.below hT (by repeat (first | (with_reducible first | exact HB.out | apply below_alloc | apply pw_below_drewN | apply below_drew1 | refine below_set ?_ GE315.out | refine below_set ?_ GE316.out | refine below_set ?_ GE317.out) | exact HB.out)) | ((repeat (first | exact hT | apply Tabs.drewN | apply Tabs.drew)); done)); rintro e w163 ⟨rfl, hb⟩; refine ⟨_, rfl, ?_⟩; have n0_ := Aside0.mk (blk_below (g := gb315) (o := .cells #[.int .i64 a0_0, .int .i64 a0_1] 23 (0, 0)) (by (with_reducible repeat (first | refine blk_drewN ?_ _ | refine blk_drew ?_ | refine blk_alloc ?_ _)); exact BK315.out) hb); have n1_ := Aside0.mk (blk_below (g := gb316) (o := .cells #[.int .i64 a1_0, .int .i64 a1_1] 23 (0, 0)) (by (with_reducible repeat (first | refine blk_drewN ?_ _ | refine blk_drew ?_ | refine blk_alloc ?_ _)); exact BK316.out) hb); have n2_ := Aside0.mk (blk_below (g := gb317) (o := .cells #[.int .i64 a2_0, .int .i64 a2_1] 23 (0, 0)) (by (with_reducible repeat (first | refine blk_drewN ?_ _ | refine blk_drew ?_ | refine blk_alloc ?_ _)); exact BK317.out) hb); have n3_ := Aside0.mk (below_step (by repeat (first | (with_reducible first | exact HB.out | apply below_alloc | apply pw_below_drewN | apply below_drew1 | refine below_set ?_ GE315.out | refine below_set ?_ GE316.out | refine below_set ?_ GE317.out) | exact HB.out)) hb); clear BK315; clear BK316; clear BK317; clear HB; have BK315 := n0_; have BK316 := n1_; have BK317 := n2_; have HB := n3_; clear n0_ n1_ n2_ n3_; (try clear hb); (try clear hb2); (try clear hk); (try clear hi); have hnb164 := NB316_317.out; have hnc164 := NB317_316.out; have hcz165_0 : w163.cell? ⟨gb316, 0, none⟩ = some (.int .i64 a1_0) := (blk_cell BK316.out 0).trans rfl; have hcz165_1 : w163.cell? ⟨gb316, 1, none⟩ = some (.int .i64 a1_1) := (blk_cell BK316.out 1).trans rfl; have hfz165_0 := blk_frozen BK316.out 0; have hfz165_1 := blk_frozen BK316.out 1) | (go_at_call 16; (with_reducible refine (decimal_Right.calls kj127 a1_0 a1_1 false _ ?side1 A140.out).mono ?_); (case side1 => first | exact hT | exact Tabs.below hT (by repeat (first | (with_reducible first | exact HB.out | apply below_alloc | apply pw_below_drewN | apply below_drew1 | refine below_set ?_ GE315.out | refine below_set ?_ GE316.out | refine below_set ?_ GE317.out) | exact HB.out)) | ((repeat (first | exact hT | apply Tabs.drewN | apply Tabs.drew)); done)); rintro e w166 ⟨rfl, hb⟩; have n0_ := Aside0.mk (blk_below (g := gb315) (o := .cells #[.int .i64 a0_0, .int .i64 a0_1] 23 (0, 0)) (by (with_reducible repeat (first | refine blk_drewN ?_ _ | refine blk_drew ?_ | refine blk_alloc ?_ _)); exact BK315.out) hb); have n1_ := Aside0.mk (blk_below (g := gb316) (o := .cells #[.int .i64 a1_0, .int .i64 a1_1] 23 (0, 0)) (by (with_reducible repeat (first | refine blk_drewN ?_ _ | refine blk_drew ?_ | refine blk_alloc ?_ _)); exact BK316.out) hb); have n2_ := Aside0.mk (blk_below (g := gb317) (o := .cells #[.int .i64 a2_0, .int .i64 a2_1] 23 (0, 0)) (by (with_reducible repeat (first | refine blk_drewN ?_ _ | refine blk_drew ?_ | refine blk_alloc ?_ _)); exact BK317.out) hb); have n3_ := Aside0.mk (below_step (by repeat (first | (with_reducible first | exact HB.out | apply below_alloc | apply pw_below_drewN | apply below_drew1 | refine below_set ?_ GE315.out | refine below_set ?_ GE316.out | refine below_set ?_ GE317.out) | exact HB.out)) hb); clear BK315; clear BK316; clear BK317; clear HB; have BK315 := n0_; have BK316 := n1_; have BK317 := n2_; have HB := n3_; clear n0_ n1_ n2_ n3_; (try clear hb); (try clear hb2); (try clear hk); (try clear hi)))
                        go_meet
                        case rel => exact ⟨_, (false), (by first | rfl | (simp; done) | (simp [*]; done)), H', ⟨by have := HJ9.out; have := HJ125.out; have := HJ127.out; first | omega | exact Nat.le_refl _⟩, ⟨by (with_reducible repeat (first | refine blk_drewN ?_ _ | refine blk_drew ?_ | refine blk_alloc ?_ _)); exact BK315.out⟩, ⟨by (with_reducible repeat (first | refine blk_drewN ?_ _ | refine blk_drew ?_ | refine blk_alloc ?_ _)); exact BK316.out⟩, ⟨by (with_reducible repeat (first | refine blk_drewN ?_ _ | refine blk_drew ?_ | refine blk_alloc ?_ _)); exact BK317.out⟩, ⟨by repeat (first | (with_reducible first | exact HB.out | apply below_alloc | apply pw_below_drewN | apply below_drew1 | refine below_set ?_ GE315.out | refine below_set ?_ GE316.out | refine below_set ?_ GE317.out) | exact HB.out)⟩⟩
                    · replace c139 := Bool.eq_false_iff.mpr c139
                      subst c139
                      rw [if_neg (show ¬ (false = true) by decide)] at H
                      have H' := Aside0.mk H
                      clear H
                      have hnb167 := NB315_316.out
                      have hnc167 := NB316_315.out
                      have hnb168 := NB315_317.out
                      have hnc168 := NB317_315.out
                      have hcz169_0 : w137.cell? ⟨gb315, 0, none⟩ = some (.int .i64 a0_0) := (blk_cell BK315.out 0).trans rfl
                      have hcz169_1 : w137.cell? ⟨gb315, 1, none⟩ = some (.int .i64 a0_1) := (blk_cell BK315.out 1).trans rfl
                      have hfz169_0 := blk_frozen BK315.out 0
                      have hfz169_1 := blk_frozen BK315.out 1
                      go_wp2_with (first | ((with_reducible refine gate_callee (f := 16) rfl ?_); refine goesL_ (some 82) rfl rfl Tryd.func16 (by kernel_rfl) rfl #[.agg #[.int .i64 a0_0, .int .i64 a0_1]] rfl (by (try simp only [List.map_toArray, List.map_cons, List.map_nil]); first | done | rfl | (simp only [List.length_drop, List.length_take]; rfl)) ?_; (with_reducible refine (decimal_Right.calls kj127 a0_0 a0_1 false _ ?side1 A138.out).mono ?_); (case side1 => first | exact hT | exact Tabs.below hT (by repeat (first | (with_reducible first | exact HB.out | apply below_alloc | apply pw_below_drewN | apply below_drew1 | refine below_set ?_ GE315.out | refine below_set ?_ GE316.out | refine below_set ?_ GE317.out) | exact HB.out)) | ((repeat (first | exact hT | apply Tabs.drewN | apply Tabs.drew)); done)); rintro e w170 ⟨rfl, hb⟩; refine ⟨_, rfl, ?_⟩; have n0_ := Aside0.mk (blk_below (g := gb315) (o := .cells #[.int .i64 a0_0, .int .i64 a0_1] 23 (0, 0)) (by (with_reducible repeat (first | refine blk_drewN ?_ _ | refine blk_drew ?_ | refine blk_alloc ?_ _)); exact BK315.out) hb); have n1_ := Aside0.mk (blk_below (g := gb316) (o := .cells #[.int .i64 a1_0, .int .i64 a1_1] 23 (0, 0)) (by (with_reducible repeat (first | refine blk_drewN ?_ _ | refine blk_drew ?_ | refine blk_alloc ?_ _)); exact BK316.out) hb); have n2_ := Aside0.mk (blk_below (g := gb317) (o := .cells #[.int .i64 a2_0, .int .i64 a2_1] 23 (0, 0)) (by (with_reducible repeat (first | refine blk_drewN ?_ _ | refine blk_drew ?_ | refine blk_alloc ?_ _)); exact BK317.out) hb); have n3_ := Aside0.mk (below_step (by repeat (first | (with_reducible first | exact HB.out | apply below_alloc | apply pw_below_drewN | apply below_drew1 | refine below_set ?_ GE315.out | refine below_set ?_ GE316.out | refine below_set ?_ GE317.out) | exact HB.out)) hb); clear BK315; clear BK316; clear BK317; clear HB; have BK315 := n0_; have BK316 := n1_; have BK317 := n2_; have HB := n3_; clear n0_ n1_ n2_ n3_; (try clear hb); (try clear hb2); (try clear hk); (try clear hi)))
                      go_meet
                      case rel => exact ⟨_, (false), (by first | rfl | (simp; done) | (simp [*]; done)), H', ⟨by have := HJ9.out; have := HJ125.out; have := HJ127.out; first | omega | exact Nat.le_refl _⟩, ⟨by (with_reducible repeat (first | refine blk_drewN ?_ _ | refine blk_drew ?_ | refine blk_alloc ?_ _)); exact BK315.out⟩, ⟨by (with_reducible repeat (first | refine blk_drewN ?_ _ | refine blk_drew ?_ | refine blk_alloc ?_ _)); exact BK316.out⟩, ⟨by (with_reducible repeat (first | refine blk_drewN ?_ _ | refine blk_drew ?_ | refine blk_alloc ?_ _)); exact BK317.out⟩, ⟨by repeat (first | (with_reducible first | exact HB.out | apply below_alloc | apply pw_below_drewN | apply below_drew1 | refine below_set ?_ GE315.out | refine below_set ?_ GE316.out | refine below_set ?_ GE317.out) | exact HB.out)⟩⟩
                  case rest =>
                    clear HC134
                    try clear c1
                    try clear c2
                    try clear p2
                    try clear c3
                    try clear c4
                    try clear c5
                    try clear c6
                    try clear p6
                    try clear c7
                    try clear c8
                    try clear c9
                    try clear c10
                    try clear c11
                    try clear c12
                    try clear c13
                    try clear c14
                    try clear c15
                    try clear c16
                    try clear c18
                    try clear c22
                    try clear c28
                    try clear c28b0
                    try clear c28b1
                    try clear c29
                    try clear c29b0
                    try clear c30
                    try clear c31
                    try clear c33
                    try clear c36
                    try clear c36b0
                    try clear c37
                    try clear c38
                    try clear c40
                    try clear c43
                    try clear c43b0
                    try clear c43b1
                    try clear c44
                    try clear c44b0
                    try clear c44b1
                    try clear c45
                    try clear c45b0
                    try clear c45b1
                    try clear c46
                    try clear c46b0
                    try clear c46b1
                    try clear c47
                    try clear c47b0
                    try clear c47b1
                    try clear c48
                    try clear c49
                    try clear c51
                    try clear c54
                    try clear c55
                    try clear c57
                    try clear c60
                    try clear c61
                    try clear c63
                    try clear p64
                    try clear c66
                    try clear c66b0
                    try clear c66b1
                    try clear c67
                    try clear c68
                    try clear c70
                    try clear c73
                    try clear c74
                    try clear c76
                    try clear c79
                    try clear c80
                    try clear c82
                    try clear c85
                    try clear c85b0
                    try clear c85b1
                    try clear c86
                    try clear c86b0
                    try clear c86b1
                    try clear c87
                    try clear c87b0
                    try clear c87b1
                    try clear c88
                    try clear c89
                    try clear c91
                    try clear c94
                    try clear c95
                    try clear c97
                    try clear c100
                    try clear c101
                    try clear c103
                    try clear c106
                    try clear c106b0
                    try clear c106b1
                    try clear c107
                    try clear c108
                    try clear c110
                    try clear c113
                    try clear c114
                    try clear c116
                    try clear c119
                    try clear c120
                    try clear c122
                    try clear c125
                    try clear c127
                    try clear c127b0
                    try clear c129
                    try clear c129b0
                    try clear c133
                    try clear c133b0
                    try clear c133b1
                    try clear c139
                    try clear c141
                    try clear c142
                    try clear c142b0
                    try clear c143
                    try clear c144
                    try clear c147
                    try clear c152
                    try clear c153
                    try clear c156
                    try clear c160
                    try clear c161
                    try clear c164
                    try clear c167
                    try clear c168
                    try clear hcz102_0
                    try clear hcz102_1
                    try clear hcz104_0
                    try clear hcz104_1
                    try clear hcz109_0
                    try clear hcz109_1
                    try clear hcz111_0
                    try clear hcz111_1
                    try clear hcz115_0
                    try clear hcz115_1
                    try clear hcz117_0
                    try clear hcz117_1
                    try clear hcz121_0
                    try clear hcz121_1
                    try clear hcz123_0
                    try clear hcz123_1
                    try clear hcz145_0
                    try clear hcz145_1
                    try clear hcz148_0
                    try clear hcz148_1
                    try clear hcz150_0
                    try clear hcz150_1
                    try clear hcz151_0
                    try clear hcz151_1
                    try clear hcz154_0
                    try clear hcz154_1
                    try clear hcz157_0
                    try clear hcz157_1
                    try clear hcz159_0
                    try clear hcz159_1
                    try clear hcz162_0
                    try clear hcz162_1
                    try clear hcz165_0
                    try clear hcz165_1
                    try clear hcz169_0
                    try clear hcz169_1
                    try clear hcz17_0
                    try clear hcz17_1
                    try clear hcz19_0
                    try clear hcz19_1
                    try clear hcz21_0
                    try clear hcz21_1
                    try clear hcz22_0
                    try clear hcz22_1
                    try clear hcz24_0
                    try clear hcz24_1
                    try clear hcz25_0
                    try clear hcz25_1
                    try clear hcz32_0
                    try clear hcz32_1
                    try clear hcz34_0
                    try clear hcz34_1
                    try clear hcz39_0
                    try clear hcz39_1
                    try clear hcz41_0
                    try clear hcz41_1
                    try clear hcz50_0
                    try clear hcz50_1
                    try clear hcz52_0
                    try clear hcz52_1
                    try clear hcz56_0
                    try clear hcz56_1
                    try clear hcz58_0
                    try clear hcz58_1
                    try clear hcz62_0
                    try clear hcz62_1
                    try clear hcz64_0
                    try clear hcz64_1
                    try clear hcz69_0
                    try clear hcz69_1
                    try clear hcz71_0
                    try clear hcz71_1
                    try clear hcz75_0
                    try clear hcz75_1
                    try clear hcz77_0
                    try clear hcz77_1
                    try clear hcz81_0
                    try clear hcz81_1
                    try clear hcz83_0
                    try clear hcz83_1
                    try clear hcz90_0
                    try clear hcz90_1
                    try clear hcz92_0
                    try clear hcz92_1
                    try clear hcz96_0
                    try clear hcz96_1
                    try clear hcz98_0
                    try clear hcz98_1
                    try clear hfz102_0
                    try clear hfz102_1
                    try clear hfz104_0
                    try clear hfz104_1
                    try clear hfz109_0
                    try clear hfz109_1
                    try clear hfz111_0
                    try clear hfz111_1
                    try clear hfz115_0
                    try clear hfz115_1
                    try clear hfz117_0
                    try clear hfz117_1
                    try clear hfz121_0
                    try clear hfz121_1
                    try clear hfz123_0
                    try clear hfz123_1
                    try clear hfz145_0
                    try clear hfz145_1
                    try clear hfz148_0
                    try clear hfz148_1
                    try clear hfz150_0
                    try clear hfz150_1
                    try clear hfz151_0
                    try clear hfz151_1
                    try clear hfz154_0
                    try clear hfz154_1
                    try clear hfz157_0
                    try clear hfz157_1
                    try clear hfz159_0
                    try clear hfz159_1
                    try clear hfz162_0
                    try clear hfz162_1
                    try clear hfz165_0
                    try clear hfz165_1
                    try clear hfz169_0
                    try clear hfz169_1
                    try clear hfz17_0
                    try clear hfz17_1
                    try clear hfz19_0
                    try clear hfz19_1
                    try clear hfz21_0
                    try clear hfz21_1
                    try clear hfz22_0
                    try clear hfz22_1
                    try clear hfz24_0
                    try clear hfz24_1
                    try clear hfz25_0
                    try clear hfz25_1
                    try clear hfz32_0
                    try clear hfz32_1
                    try clear hfz34_0
                    try clear hfz34_1
                    try clear hfz39_0
                    try clear hfz39_1
                    try clear hfz41_0
                    try clear hfz41_1
                    try clear hfz50_0
                    try clear hfz50_1
                    try clear hfz52_0
                    try clear hfz52_1
                    try clear hfz56_0
                    try clear hfz56_1
                    try clear hfz58_0
                    try clear hfz58_1
                    try clear hfz62_0
                    try clear hfz62_1
                    try clear hfz64_0
                    try clear hfz64_1
                    try clear hfz69_0
                    try clear hfz69_1
                    try clear hfz71_0
                    try clear hfz71_1
                    try clear hfz75_0
                    try clear hfz75_1
                    try clear hfz77_0
                    try clear hfz77_1
                    try clear hfz81_0
                    try clear hfz81_1
                    try clear hfz83_0
                    try clear hfz83_1
                    try clear hfz90_0
                    try clear hfz90_1
                    try clear hfz92_0
                    try clear hfz92_1
                    try clear hfz96_0
                    try clear hfz96_1
                    try clear hfz98_0
                    try clear hfz98_1
                    try clear p2
                    try clear p6
                    try clear p64
                    obtain ⟨kq, x96_133, rfl, HA, HJ133, BK315, BK316, BK317, HB⟩ := hcut
                    cases kq with
                    | zero => exact absurd HA.out (by simp [decklelaw06_DecimalOrder_t.j3])
                    | succ kj133 =>
                      have H := HA.out
                      clear HA
                      simp only [decklelaw06_DecimalOrder_t.j3] at H
                      by_cases c171 : x96_133 = true
                      · subst c171
                        rw [if_pos rfl] at H
                        have HC172 := Aside0.mk H
                        clear H
                        go_upto_region 15 with (fail)
                        go_cut [10] (fun v10 wc => ∃ (kq : Nat) (x10_171 : Bool), v10 = .bool x10_171 ∧ Aside0 (decklelaw06_DecimalOrder_t.j4 kq x10_171 = some r) ∧ Aside0 (kq ≤ kj133) ∧ Aside0 (wc.heap[gb315]? = some (.cells #[.int .i64 a0_0, .int .i64 a0_1] 23 (0, 0))) ∧ Aside0 (wc.heap[gb316]? = some (.cells #[.int .i64 a1_0, .int .i64 a1_1] 23 (0, 0))) ∧ Aside0 (wc.heap[gb317]? = some (.cells #[.int .i64 a2_0, .int .i64 a2_1] 23 (0, 0))) ∧ Aside0 (Below w.heap.size w wc))
                        case first =>
                          have H := HC172.out
                          clear HC172
                          by_cases c173 : t318 = true
                          · subst c173
                            rw [if_pos rfl] at H
                            by_cases c174 : ((t319 == 0) == (a0_0 == a1_0 && (a0_1 == a1_1))) = true
                            · rw [if_pos c174] at H
                              have c174b0 : ((t319 == 0) == (a0_0 == a1_0 && (a0_1 == a1_1))) = true := c174
                              (try (have c174b1 : decide ((t319 == 0) = (a0_0 == a1_0 && (a0_1 == a1_1))) = true := by simpa using c174))
                              (try (have c174b2 : ((t319 == 0) == (a0_0 == a1_0 && (a0_1 == a1_1))) = true := by simpa using c174))
                              clear c174
                              (first | rw [c174b0] | (simp only [i64_w, i32_w]; rw [c174b0]) | skip)
                              replace H := Option.bind_eq_some_iff.mp H
                              obtain ⟨t330, A1750, H⟩ := H
                              have A175 := Aside0.mk A1750; clear A1750
                              have H' := Aside0.mk H
                              clear H
                              have hnb176 := NB315_316.out
                              have hnc176 := NB316_315.out
                              have hnb177 := NB315_317.out
                              have hnc177 := NB317_315.out
                              have hcz178_0 : wc.cell? ⟨gb315, 0, none⟩ = some (.int .i64 a0_0) := (blk_cell BK315.out 0).trans rfl
                              have hcz178_1 : wc.cell? ⟨gb315, 1, none⟩ = some (.int .i64 a0_1) := (blk_cell BK315.out 1).trans rfl
                              have hfz178_0 := blk_frozen BK315.out 0
                              have hfz178_1 := blk_frozen BK315.out 1
                              have hnb179 := NB316_317.out
                              have hnc179 := NB317_316.out
                              have hcz180_0 : wc.cell? ⟨gb316, 0, none⟩ = some (.int .i64 a1_0) := (blk_cell BK316.out 0).trans rfl
                              have hcz180_1 : wc.cell? ⟨gb316, 1, none⟩ = some (.int .i64 a1_1) := (blk_cell BK316.out 1).trans rfl
                              have hfz180_0 := blk_frozen BK316.out 0
                              have hfz180_1 := blk_frozen BK316.out 1
                              go_wp2_with (first | (go_at_call 22; (with_reducible refine (decimal_Compare.calls kj133 (wrap64 (-a0_0)) a0_1 (wrap64 (-a1_0)) a1_1 t330 _ ?side1 A175.out).mono ?_); (case side1 => first | exact hT | exact Tabs.below hT (by repeat (first | (with_reducible first | exact HB.out | apply below_alloc | apply pw_below_drewN | apply below_drew1 | refine below_set ?_ GE315.out | refine below_set ?_ GE316.out | refine below_set ?_ GE317.out) | exact HB.out)) | ((repeat (first | exact hT | apply Tabs.drewN | apply Tabs.drew)); done)); rintro e w181 ⟨rfl, hb⟩; have n0_ := Aside0.mk (blk_below (g := gb315) (o := .cells #[.int .i64 a0_0, .int .i64 a0_1] 23 (0, 0)) (by (with_reducible repeat (first | refine blk_drewN ?_ _ | refine blk_drew ?_ | refine blk_alloc ?_ _)); exact BK315.out) hb); have n1_ := Aside0.mk (blk_below (g := gb316) (o := .cells #[.int .i64 a1_0, .int .i64 a1_1] 23 (0, 0)) (by (with_reducible repeat (first | refine blk_drewN ?_ _ | refine blk_drew ?_ | refine blk_alloc ?_ _)); exact BK316.out) hb); have n2_ := Aside0.mk (blk_below (g := gb317) (o := .cells #[.int .i64 a2_0, .int .i64 a2_1] 23 (0, 0)) (by (with_reducible repeat (first | refine blk_drewN ?_ _ | refine blk_drew ?_ | refine blk_alloc ?_ _)); exact BK317.out) hb); have n3_ := Aside0.mk (below_step (by repeat (first | (with_reducible first | exact HB.out | apply below_alloc | apply pw_below_drewN | apply below_drew1 | refine below_set ?_ GE315.out | refine below_set ?_ GE316.out | refine below_set ?_ GE317.out) | exact HB.out)) hb); clear BK315; clear BK316; clear BK317; clear HB; have BK315 := n0_; have BK316 := n1_; have BK317 := n2_; have HB := n3_; clear n0_ n1_ n2_ n3_; (try clear hb); (try clear hb2); (try clear hk); (try clear hi)))
                              go_meet
                              case rel => exact ⟨_, ((t330 == (wrap64 (-t319)))), (by first | rfl | (simp; done) | (simp [*]; done)), H', ⟨by have := HJ9.out; have := HJ125.out; have := HJ127.out; have := HJ133.out; first | omega | exact Nat.le_refl _⟩, ⟨by (with_reducible repeat (first | refine blk_drewN ?_ _ | refine blk_drew ?_ | refine blk_alloc ?_ _)); exact BK315.out⟩, ⟨by (with_reducible repeat (first | refine blk_drewN ?_ _ | refine blk_drew ?_ | refine blk_alloc ?_ _)); exact BK316.out⟩, ⟨by (with_reducible repeat (first | refine blk_drewN ?_ _ | refine blk_drew ?_ | refine blk_alloc ?_ _)); exact BK317.out⟩, ⟨by repeat (first | (with_reducible first | exact HB.out | apply below_alloc | apply pw_below_drewN | apply below_drew1 | refine below_set ?_ GE315.out | refine below_set ?_ GE316.out | refine below_set ?_ GE317.out) | exact HB.out)⟩⟩
                            · rw [if_neg c174] at H
                              have c174b0 : ((t319 == 0) == (a0_0 == a1_0 && (a0_1 == a1_1))) = false := by simpa using c174
                              (try (have c174b1 : decide ((t319 == 0) = (a0_0 == a1_0 && (a0_1 == a1_1))) = false := by simpa using c174))
                              (try (have c174b2 : ((t319 == 0) == (a0_0 == a1_0 && (a0_1 == a1_1))) = false := by simpa using c174))
                              (try (have c174b3 : ¬ ((t319 == 0) = (a0_0 == a1_0 && (a0_1 == a1_1))) := by simpa using c174))
                              clear c174
                              (first | rw [c174b0] | (simp only [i64_w, i32_w]; rw [c174b0]) | skip)
                              have H' := Aside0.mk H
                              clear H
                              have hnb182 := NB315_316.out
                              have hnc182 := NB316_315.out
                              have hnb183 := NB315_317.out
                              have hnc183 := NB317_315.out
                              have hcz184_0 : wc.cell? ⟨gb315, 0, none⟩ = some (.int .i64 a0_0) := (blk_cell BK315.out 0).trans rfl
                              have hcz184_1 : wc.cell? ⟨gb315, 1, none⟩ = some (.int .i64 a0_1) := (blk_cell BK315.out 1).trans rfl
                              have hfz184_0 := blk_frozen BK315.out 0
                              have hfz184_1 := blk_frozen BK315.out 1
                              have hnb185 := NB316_317.out
                              have hnc185 := NB317_316.out
                              have hcz186_0 : wc.cell? ⟨gb316, 0, none⟩ = some (.int .i64 a1_0) := (blk_cell BK316.out 0).trans rfl
                              have hcz186_1 : wc.cell? ⟨gb316, 1, none⟩ = some (.int .i64 a1_1) := (blk_cell BK316.out 1).trans rfl
                              have hfz186_0 := blk_frozen BK316.out 0
                              have hfz186_1 := blk_frozen BK316.out 1
                              go_wp2
                              go_meet
                              case rel => exact ⟨_, (false), (by first | rfl | (simp; done) | (simp [*]; done)), H', ⟨by have := HJ9.out; have := HJ125.out; have := HJ127.out; have := HJ133.out; first | omega | exact Nat.le_refl _⟩, ⟨by (with_reducible repeat (first | refine blk_drewN ?_ _ | refine blk_drew ?_ | refine blk_alloc ?_ _)); exact BK315.out⟩, ⟨by (with_reducible repeat (first | refine blk_drewN ?_ _ | refine blk_drew ?_ | refine blk_alloc ?_ _)); exact BK316.out⟩, ⟨by (with_reducible repeat (first | refine blk_drewN ?_ _ | refine blk_drew ?_ | refine blk_alloc ?_ _)); exact BK317.out⟩, ⟨by repeat (first | (with_reducible first | exact HB.out | apply below_alloc | apply pw_below_drewN | apply below_drew1 | refine below_set ?_ GE315.out | refine below_set ?_ GE316.out | refine below_set ?_ GE317.out) | exact HB.out)⟩⟩
                          · replace c173 := Bool.eq_false_iff.mpr c173
                            subst c173
                            rw [if_neg (show ¬ (false = true) by decide)] at H
                            have H' := Aside0.mk H
                            clear H
                            go_wp2
                            go_meet
                            case rel => exact ⟨_, (false), (by first | rfl | (simp; done) | (simp [*]; done)), H', ⟨by have := HJ9.out; have := HJ125.out; have := HJ127.out; have := HJ133.out; first | omega | exact Nat.le_refl _⟩, ⟨by (with_reducible repeat (first | refine blk_drewN ?_ _ | refine blk_drew ?_ | refine blk_alloc ?_ _)); exact BK315.out⟩, ⟨by (with_reducible repeat (first | refine blk_drewN ?_ _ | refine blk_drew ?_ | refine blk_alloc ?_ _)); exact BK316.out⟩, ⟨by (with_reducible repeat (first | refine blk_drewN ?_ _ | refine blk_drew ?_ | refine blk_alloc ?_ _)); exact BK317.out⟩, ⟨by repeat (first | (with_reducible first | exact HB.out | apply below_alloc | apply pw_below_drewN | apply below_drew1 | refine below_set ?_ GE315.out | refine below_set ?_ GE316.out | refine below_set ?_ GE317.out) | exact HB.out)⟩⟩
                        case rest =>
                          clear HC172
                          try clear c1
                          try clear c2
                          try clear p2
                          try clear c3
                          try clear c4
                          try clear c5
                          try clear c6
                          try clear p6
                          try clear c7
                          try clear c8
                          try clear c9
                          try clear c10
                          try clear c11
                          try clear c12
                          try clear c13
                          try clear c14
                          try clear c15
                          try clear c16
                          try clear c17
                          try clear c18
                          try clear c22
                          try clear c28
                          try clear c28b0
                          try clear c28b1
                          try clear c29
                          try clear c29b0
                          try clear c30
                          try clear c31
                          try clear c33
                          try clear c36
                          try clear c36b0
                          try clear c37
                          try clear c38
                          try clear c40
                          try clear c43
                          try clear c43b0
                          try clear c43b1
                          try clear c44
                          try clear c44b0
                          try clear c44b1
                          try clear c45
                          try clear c45b0
                          try clear c45b1
                          try clear c46
                          try clear c46b0
                          try clear c46b1
                          try clear c47
                          try clear c47b0
                          try clear c47b1
                          try clear c48
                          try clear c49
                          try clear c51
                          try clear c54
                          try clear c55
                          try clear c57
                          try clear c60
                          try clear c61
                          try clear c63
                          try clear p64
                          try clear c66
                          try clear c66b0
                          try clear c66b1
                          try clear c67
                          try clear c68
                          try clear c70
                          try clear c73
                          try clear c74
                          try clear c76
                          try clear c79
                          try clear c80
                          try clear c82
                          try clear c85
                          try clear c85b0
                          try clear c85b1
                          try clear c86
                          try clear c86b0
                          try clear c86b1
                          try clear c87
                          try clear c87b0
                          try clear c87b1
                          try clear c88
                          try clear c89
                          try clear c91
                          try clear c94
                          try clear c95
                          try clear c97
                          try clear c100
                          try clear c101
                          try clear c103
                          try clear c106
                          try clear c106b0
                          try clear c106b1
                          try clear c107
                          try clear c108
                          try clear c110
                          try clear c113
                          try clear c114
                          try clear c116
                          try clear c119
                          try clear c120
                          try clear c122
                          try clear c125
                          try clear c127
                          try clear c127b0
                          try clear c129
                          try clear c129b0
                          try clear c133
                          try clear c133b0
                          try clear c133b1
                          try clear c139
                          try clear c141
                          try clear c142
                          try clear c142b0
                          try clear c143
                          try clear c144
                          try clear c147
                          try clear c152
                          try clear c153
                          try clear c156
                          try clear c160
                          try clear c161
                          try clear c164
                          try clear c167
                          try clear c168
                          try clear c171
                          try clear c173
                          try clear c174
                          try clear c174b0
                          try clear c174b1
                          try clear c174b2
                          try clear c176
                          try clear c177
                          try clear c179
                          try clear c182
                          try clear c183
                          try clear c185
                          try clear hcz102_0
                          try clear hcz102_1
                          try clear hcz104_0
                          try clear hcz104_1
                          try clear hcz109_0
                          try clear hcz109_1
                          try clear hcz111_0
                          try clear hcz111_1
                          try clear hcz115_0
                          try clear hcz115_1
                          try clear hcz117_0
                          try clear hcz117_1
                          try clear hcz121_0
                          try clear hcz121_1
                          try clear hcz123_0
                          try clear hcz123_1
                          try clear hcz145_0
                          try clear hcz145_1
                          try clear hcz148_0
                          try clear hcz148_1
                          try clear hcz150_0
                          try clear hcz150_1
                          try clear hcz151_0
                          try clear hcz151_1
                          try clear hcz154_0
                          try clear hcz154_1
                          try clear hcz157_0
                          try clear hcz157_1
                          try clear hcz159_0
                          try clear hcz159_1
                          try clear hcz162_0
                          try clear hcz162_1
                          try clear hcz165_0
                          try clear hcz165_1
                          try clear hcz169_0
                          try clear hcz169_1
                          try clear hcz178_0
                          try clear hcz178_1
                          try clear hcz17_0
                          try clear hcz17_1
                          try clear hcz180_0
                          try clear hcz180_1
                          try clear hcz184_0
                          try clear hcz184_1
                          try clear hcz186_0
                          try clear hcz186_1
                          try clear hcz19_0
                          try clear hcz19_1
                          try clear hcz21_0
                          try clear hcz21_1
                          try clear hcz22_0
                          try clear hcz22_1
                          try clear hcz24_0
                          try clear hcz24_1
                          try clear hcz25_0
                          try clear hcz25_1
                          try clear hcz32_0
                          try clear hcz32_1
                          try clear hcz34_0
                          try clear hcz34_1
                          try clear hcz39_0
                          try clear hcz39_1
                          try clear hcz41_0
                          try clear hcz41_1
                          try clear hcz50_0
                          try clear hcz50_1
                          try clear hcz52_0
                          try clear hcz52_1
                          try clear hcz56_0
                          try clear hcz56_1
                          try clear hcz58_0
                          try clear hcz58_1
                          try clear hcz62_0
                          try clear hcz62_1
                          try clear hcz64_0
                          try clear hcz64_1
                          try clear hcz69_0
                          try clear hcz69_1
                          try clear hcz71_0
                          try clear hcz71_1
                          try clear hcz75_0
                          try clear hcz75_1
                          try clear hcz77_0
                          try clear hcz77_1
                          try clear hcz81_0
                          try clear hcz81_1
                          try clear hcz83_0
                          try clear hcz83_1
                          try clear hcz90_0
                          try clear hcz90_1
                          try clear hcz92_0
                          try clear hcz92_1
                          try clear hcz96_0
                          try clear hcz96_1
                          try clear hcz98_0
                          try clear hcz98_1
                          try clear hfz102_0
                          try clear hfz102_1
                          try clear hfz104_0
                          try clear hfz104_1
                          try clear hfz109_0
                          try clear hfz109_1
                          try clear hfz111_0
                          try clear hfz111_1
                          try clear hfz115_0
                          try clear hfz115_1
                          try clear hfz117_0
                          try clear hfz117_1
                          try clear hfz121_0
                          try clear hfz121_1
                          try clear hfz123_0
                          try clear hfz123_1
                          try clear hfz145_0
                          try clear hfz145_1
                          try clear hfz148_0
                          try clear hfz148_1
                          try clear hfz150_0
                          try clear hfz150_1
                          try clear hfz151_0
                          try clear hfz151_1
                          try clear hfz154_0
                          try clear hfz154_1
                          try clear hfz157_0
                          try clear hfz157_1
                          try clear hfz159_0
                          try clear hfz159_1
                          try clear hfz162_0
                          try clear hfz162_1
                          try clear hfz165_0
                          try clear hfz165_1
                          try clear hfz169_0
                          try clear hfz169_1
                          try clear hfz178_0
                          try clear hfz178_1
                          try clear hfz17_0
                          try clear hfz17_1
                          try clear hfz180_0
                          try clear hfz180_1
                          try clear hfz184_0
                          try clear hfz184_1
                          try clear hfz186_0
                          try clear hfz186_1
                          try clear hfz19_0
                          try clear hfz19_1
                          try clear hfz21_0
                          try clear hfz21_1
                          try clear hfz22_0
                          try clear hfz22_1
                          try clear hfz24_0
                          try clear hfz24_1
                          try clear hfz25_0
                          try clear hfz25_1
                          try clear hfz32_0
                          try clear hfz32_1
                          try clear hfz34_0
                          try clear hfz34_1
                          try clear hfz39_0
                          try clear hfz39_1
                          try clear hfz41_0
                          try clear hfz41_1
                          try clear hfz50_0
                          try clear hfz50_1
                          try clear hfz52_0
                          try clear hfz52_1
                          try clear hfz56_0
                          try clear hfz56_1
                          try clear hfz58_0
                          try clear hfz58_1
                          try clear hfz62_0
                          try clear hfz62_1
                          try clear hfz64_0
                          try clear hfz64_1
                          try clear hfz69_0
                          try clear hfz69_1
                          try clear hfz71_0
                          try clear hfz71_1
                          try clear hfz75_0
                          try clear hfz75_1
                          try clear hfz77_0
                          try clear hfz77_1
                          try clear hfz81_0
                          try clear hfz81_1
                          try clear hfz83_0
                          try clear hfz83_1
                          try clear hfz90_0
                          try clear hfz90_1
                          try clear hfz92_0
                          try clear hfz92_1
                          try clear hfz96_0
                          try clear hfz96_1
                          try clear hfz98_0
                          try clear hfz98_1
                          try clear p2
                          try clear p6
                          try clear p64
                          obtain ⟨kq, x10_171, rfl, HA, HJ171, BK315, BK316, BK317, HB⟩ := hcut
                          cases kq with
                          | zero => exact absurd HA.out (by simp [decklelaw06_DecimalOrder_t.j4])
                          | succ kj171 =>
                            have H := HA.out
                            clear HA
                            simp only [decklelaw06_DecimalOrder_t.j4] at H
                            clear hr
                            obtain rfl := Option.some.inj H
                            go_wp2
                            go_ret
                            exact ⟨by first | rfl | (simp [errW_none, errW_some] <;> rfl) | (simp [*, errW_none, errW_some] <;> rfl) | (simp [errW_none, errW_some, bne_nil_, beq_nil_]; done) | (simp [*, errW_none, errW_some, bne_nil_, beq_nil_]; done), by repeat (first | (with_reducible first | exact HB.out | apply below_alloc | apply pw_below_drewN | apply below_drew1 | refine below_set ?_ GE315.out | refine below_set ?_ GE316.out | refine below_set ?_ GE317.out) | exact HB.out)⟩
                      · replace c171 := Bool.eq_false_iff.mpr c171
                        subst c171
                        rw [if_neg (show ¬ (false = true) by decide)] at H
                        clear hr
                        obtain rfl := Option.some.inj H
                        go_wp2
                        go_ret
                        exact ⟨by first | rfl | (simp [errW_none, errW_some] <;> rfl) | (simp [*, errW_none, errW_some] <;> rfl) | (simp [errW_none, errW_some, bne_nil_, beq_nil_]; done) | (simp [*, errW_none, errW_some, bne_nil_, beq_nil_]; done), by repeat (first | (with_reducible first | exact HB.out | apply below_alloc | apply pw_below_drewN | apply below_drew1 | refine below_set ?_ GE315.out | refine below_set ?_ GE316.out | refine below_set ?_ GE317.out) | exact HB.out)⟩
                · rw [if_neg c133] at H
                  have c133b0 : (t327 == x15_127) = false := beq_eq_false_iff_ne.mpr c133
                  have c133b1 : (t327 != x15_127) = true := bne_iff_ne.mpr c133
                  exact absurd (Option.some.inj H) (by rw [hr]; decide)

end Go.Proofs.YtnpkjakkjfjikaaDoor.All
