-- Written for this claim by wip/tools/gprint.py out of the translation (it drives the kit's print). Lean checks it.
import Derived.Test.YtbbonbhammfpjaaDoorAll0
import Derived.Test.YtbbonbhammfpjaaDoorAll1
import Derived.Test.YtbbonbhammfpjaaDoorAll3
import Derived.Test.YtbbonbhammfpjaaDoorAll5
import Derived.Test.YtbbonbhammfpjaaDoorAll6
namespace Go.Proofs.YtbbonbhammfpjaaDoor.All
open Go.RowKit Go.Proofs.YtbbonbhammfpjaaDoorW.PrintWords Go.Proofs.YtbbonbhammfpjaaDoorW.PrintLast Go.Proofs.YtbbonbhammfpjaaDoorW.PrintMore Go.Proofs.YtbbonbhammfpjaaDoor.G
attribute [local go_sem] max2_int min2_int max_two min_two max_three min_three max_four min_four str_leq str_gtr str_geq   -- for this text's walks alone
set_option linter.unusedVariables false
set_option linter.unusedSimpArgs false

attribute [local go_sem high] eqA28
/-! ### decklelaw12_NumberBack_t: function 4 -/
mutual
def decklelaw12_NumberBack_t.j0 : Nat → List Int → List (S28) → ByteArray → Bool → Bool → Option (Bool)
  | 0, _, _, _, _, _ => none
  | k + 1, x0, x1, x2, x7, x40 => if x40 = true then (some x7) else (if x2.toList = ([] : List UInt8) then (decklelaw12_NumberBack_t.j1 k x0 x1 x2 x7 false) else (if 0 < (x2.size : Int) then (if (bt x2 0) = 32 then (decklelaw12_NumberBack_t.j1 k x0 x1 x2 x7 true) else (if (bt x2 0) = 69 then (decklelaw12_NumberBack_t.j1 k x0 x1 x2 x7 true) else (if (bt x2 0) ≥ 48 then (if (bt x2 0) ≤ 57 then (decklelaw12_NumberBack_t.j1 k x0 x1 x2 x7 true) else (decklelaw12_NumberBack_t.j1 k x0 x1 x2 x7 ((bt x2 0) == 194))) else (decklelaw12_NumberBack_t.j1 k x0 x1 x2 x7 ((bt x2 0) == 194))))) else (none)))
def decklelaw12_NumberBack_t.j1 : Nat → List Int → List (S28) → ByteArray → Bool → Bool → Option (Bool)
  | 0, _, _, _, _, _ => none
  | k + 1, x0, x1, x2, x7, x68 => if x68 = true then (some x7) else ((number_Ints.f k x0).bind fun t298 => (if t298.size + x2.size ≤ 9223372036854775807 then ((number_Read.f k (t298 ++ x2)).bind fun bt299 => (if bt299.2.2 = true then (if bt299.2.1.toList = x2.toList then (decklelaw12_NumberBack_t.j2 k x0 x1 x2 x7 bt299.1 ((bt299.1.length : Int) != (x0.length : Int))) else (decklelaw12_NumberBack_t.j2 k x0 x1 x2 x7 bt299.1 true)) else (decklelaw12_NumberBack_t.j2 k x0 x1 x2 x7 bt299.1 true))) else (none)))
def decklelaw12_NumberBack_t.j2 : Nat → List Int → List (S28) → ByteArray → Bool → List (S28) → Bool → Option (Bool)
  | 0, _, _, _, _, _, _ => none
  | k + 1, x0, x1, x2, x7, x8, x92 => if x92 = true then (some false) else (decklelaw12_NumberBack_t.l0 k x0 x1 x2 x7 x8 0)
def decklelaw12_NumberBack_t.l0 : Nat → List Int → List (S28) → ByteArray → Bool → List (S28) → Int → Option (Bool)
  | 0, _, _, _, _, _, _ => none
  | k + 1, x0, x1, x2, x7, x8, x11 => if x11 < (x0.length : Int) then (if 0 ≤ x11 then (if x11 < (x8.length : Int) then ((decimal_Of.f k (rd x0 x11)).bind fun bt306 => (if (!(((rd_T28 x8 x11).f0) == bt306.1) || (!(((rd_T28 x8 x11).f1) == bt306.2))) = true then (some false) else (decklelaw12_NumberBack_t.l0 k x0 x1 x2 x7 x8 (wrap64 (x11 + 1))))) else (none)) else (none)) else (decklelaw12_NumberBack_t.l1 k x1 x2 x7 0)
def decklelaw12_NumberBack_t.l1 : Nat → List (S28) → ByteArray → Bool → Int → Option (Bool)
  | 0, _, _, _, _ => none
  | k + 1, x1, x2, x7, x12 => if x12 < (x1.length : Int) then (if 0 ≤ x12 then ((decimal_Right.f k ((rd_T28 x1 x12).f0) ((rd_T28 x1 x12).f1)).bind fun t309 => (if t309 = true then (decklelaw12_NumberBack_t.l1 k x1 x2 x7 (wrap64 (x12 + 1))) else (if x7 = true then ((number_Decs.f k x1).bind fun t310 => (some (t310.toList == ([] : List UInt8)))) else (some false)))) else (none)) else ((number_Decs.f k x1).bind fun t311 => (if t311.size + x2.size ≤ 9223372036854775807 then ((number_Read.f k (t311 ++ x2)).bind fun bt312 => (if bt312.2.2 = true then (if bt312.2.1.toList = x2.toList then (decklelaw12_NumberBack_t.j5 k x1 x7 bt312.1 ((bt312.1.length : Int) != (x1.length : Int))) else (decklelaw12_NumberBack_t.j5 k x1 x7 bt312.1 true)) else (decklelaw12_NumberBack_t.j5 k x1 x7 bt312.1 true))) else (none)))
def decklelaw12_NumberBack_t.j5 : Nat → List (S28) → Bool → List (S28) → Bool → Option (Bool)
  | 0, _, _, _, _ => none
  | k + 1, x1, x7, x13, x149 => if x149 = true then (some false) else (decklelaw12_NumberBack_t.l2 k x1 x7 x13 0)
def decklelaw12_NumberBack_t.l2 : Nat → List (S28) → Bool → List (S28) → Int → Option (Bool)
  | 0, _, _, _, _ => none
  | k + 1, x1, x7, x13, x16 => if x16 < (x1.length : Int) then (if 0 ≤ x16 then (if x16 < (x13.length : Int) then (if (!(((rd_T28 x13 x16).f0) == ((rd_T28 x1 x16).f0)) || (!(((rd_T28 x13 x16).f1) == ((rd_T28 x1 x16).f1)))) = true then (some false) else (decklelaw12_NumberBack_t.l2 k x1 x7 x13 (wrap64 (x16 + 1)))) else (none)) else (none)) else (some x7)
end
def decklelaw12_NumberBack_t.f (k : Nat) (l0 : List Int) (l1 : List (S28)) (a2 : ByteArray) : Option (Bool) := (decklelaw12_small.f k).bind fun t297 => (if (l0.length : Int) < 1 then (decklelaw12_NumberBack_t.j0 k l0 l1 a2 t297 true) else (if (l0.length : Int) > 100 then (decklelaw12_NumberBack_t.j0 k l0 l1 a2 t297 true) else (if (l1.length : Int) < 1 then (decklelaw12_NumberBack_t.j0 k l0 l1 a2 t297 true) else (if (l1.length : Int) > 100 then (decklelaw12_NumberBack_t.j0 k l0 l1 a2 t297 true) else (decklelaw12_NumberBack_t.j0 k l0 l1 a2 t297 (decide ((a2.size : Int) > 200)))))))
theorem decklelaw12_NumberBack_t.mono_l : ∀ k, (∀ y0 y1 y2 y3 y4, LeO (decklelaw12_NumberBack_t.j0 k y0 y1 y2 y3 y4) (decklelaw12_NumberBack_t.j0 (k + 1) y0 y1 y2 y3 y4)) ∧ (∀ y0 y1 y2 y3 y4, LeO (decklelaw12_NumberBack_t.j1 k y0 y1 y2 y3 y4) (decklelaw12_NumberBack_t.j1 (k + 1) y0 y1 y2 y3 y4)) ∧ (∀ y0 y1 y2 y3 y4 y5, LeO (decklelaw12_NumberBack_t.j2 k y0 y1 y2 y3 y4 y5) (decklelaw12_NumberBack_t.j2 (k + 1) y0 y1 y2 y3 y4 y5)) ∧ (∀ y0 y1 y2 y3 y4 y5, LeO (decklelaw12_NumberBack_t.l0 k y0 y1 y2 y3 y4 y5) (decklelaw12_NumberBack_t.l0 (k + 1) y0 y1 y2 y3 y4 y5)) ∧ (∀ y0 y1 y2 y3, LeO (decklelaw12_NumberBack_t.l1 k y0 y1 y2 y3) (decklelaw12_NumberBack_t.l1 (k + 1) y0 y1 y2 y3)) ∧ (∀ y0 y1 y2 y3, LeO (decklelaw12_NumberBack_t.j5 k y0 y1 y2 y3) (decklelaw12_NumberBack_t.j5 (k + 1) y0 y1 y2 y3)) ∧ (∀ y0 y1 y2 y3, LeO (decklelaw12_NumberBack_t.l2 k y0 y1 y2 y3) (decklelaw12_NumberBack_t.l2 (k + 1) y0 y1 y2 y3))
  | 0 => ⟨fun _ _ _ _ _ r h => by simp [decklelaw12_NumberBack_t.j0] at h, fun _ _ _ _ _ r h => by simp [decklelaw12_NumberBack_t.j1] at h, fun _ _ _ _ _ _ r h => by simp [decklelaw12_NumberBack_t.j2] at h, fun _ _ _ _ _ _ r h => by simp [decklelaw12_NumberBack_t.l0] at h, fun _ _ _ _ r h => by simp [decklelaw12_NumberBack_t.l1] at h, fun _ _ _ _ r h => by simp [decklelaw12_NumberBack_t.j5] at h, fun _ _ _ _ r h => by simp [decklelaw12_NumberBack_t.l2] at h⟩
  | k + 1 => by
    obtain ⟨ih0, ih1, ih2, ih3, ih4, ih5, ih6⟩ := decklelaw12_NumberBack_t.mono_l k
    refine ⟨?_, ?_, ?_, ?_, ?_, ?_, ?_⟩
    · intro y0 y1 y2 y3 y4
      unfold decklelaw12_NumberBack_t.j0
      repeat' first
      | (with_reducible exact ih0 _ _ _ _ _)
      | (with_reducible exact ih1 _ _ _ _ _)
      | (with_reducible exact ih2 _ _ _ _ _ _)
      | (with_reducible exact ih3 _ _ _ _ _ _)
      | (with_reducible exact ih4 _ _ _ _)
      | (with_reducible exact ih5 _ _ _ _)
      | (with_reducible exact ih6 _ _ _ _)
      | (with_reducible exact decimal_Of.mono _ _)
      | (with_reducible exact decimal_Right.mono _ _ _)
      | (with_reducible exact decklelaw12_small.mono _)
      | (with_reducible exact number_Decs.mono _ _)
      | (with_reducible exact number_Ints.mono _ _)
      | (with_reducible exact number_Read.mono _ _)
      | (with_reducible exact LeO.refl _)
      | (with_reducible exact LeO.none _)
      | (with_reducible refine LeO.ite ?_ ?_)
      | (with_reducible refine LeO.bind ?_ (fun _ => ?_))
      | exact ih0 _ _ _ _ _
      | exact ih1 _ _ _ _ _
      | exact ih2 _ _ _ _ _ _
      | exact ih3 _ _ _ _ _ _
      | exact ih4 _ _ _ _
      | exact ih5 _ _ _ _
      | exact ih6 _ _ _ _
      | exact decimal_Of.mono _ _
      | exact decimal_Right.mono _ _ _
      | exact decklelaw12_small.mono _
      | exact number_Decs.mono _ _
      | exact number_Ints.mono _ _
      | exact number_Read.mono _ _
      | exact LeO.none _
      | refine LeO.ite ?_ ?_
      | refine LeO.bind ?_ (fun _ => ?_)
    · intro y0 y1 y2 y3 y4
      unfold decklelaw12_NumberBack_t.j1
      repeat' first
      | (with_reducible exact ih0 _ _ _ _ _)
      | (with_reducible exact ih1 _ _ _ _ _)
      | (with_reducible exact ih2 _ _ _ _ _ _)
      | (with_reducible exact ih3 _ _ _ _ _ _)
      | (with_reducible exact ih4 _ _ _ _)
      | (with_reducible exact ih5 _ _ _ _)
      | (with_reducible exact ih6 _ _ _ _)
      | (with_reducible exact decimal_Of.mono _ _)
      | (with_reducible exact decimal_Right.mono _ _ _)
      | (with_reducible exact decklelaw12_small.mono _)
      | (with_reducible exact number_Decs.mono _ _)
      | (with_reducible exact number_Ints.mono _ _)
      | (with_reducible exact number_Read.mono _ _)
      | (with_reducible exact LeO.refl _)
      | (with_reducible exact LeO.none _)
      | (with_reducible refine LeO.ite ?_ ?_)
      | (with_reducible refine LeO.bind ?_ (fun _ => ?_))
      | exact ih0 _ _ _ _ _
      | exact ih1 _ _ _ _ _
      | exact ih2 _ _ _ _ _ _
      | exact ih3 _ _ _ _ _ _
      | exact ih4 _ _ _ _
      | exact ih5 _ _ _ _
      | exact ih6 _ _ _ _
      | exact decimal_Of.mono _ _
      | exact decimal_Right.mono _ _ _
      | exact decklelaw12_small.mono _
      | exact number_Decs.mono _ _
      | exact number_Ints.mono _ _
      | exact number_Read.mono _ _
      | exact LeO.none _
      | refine LeO.ite ?_ ?_
      | refine LeO.bind ?_ (fun _ => ?_)
    · intro y0 y1 y2 y3 y4 y5
      unfold decklelaw12_NumberBack_t.j2
      repeat' first
      | (with_reducible exact ih0 _ _ _ _ _)
      | (with_reducible exact ih1 _ _ _ _ _)
      | (with_reducible exact ih2 _ _ _ _ _ _)
      | (with_reducible exact ih3 _ _ _ _ _ _)
      | (with_reducible exact ih4 _ _ _ _)
      | (with_reducible exact ih5 _ _ _ _)
      | (with_reducible exact ih6 _ _ _ _)
      | (with_reducible exact decimal_Of.mono _ _)
      | (with_reducible exact decimal_Right.mono _ _ _)
      | (with_reducible exact decklelaw12_small.mono _)
      | (with_reducible exact number_Decs.mono _ _)
      | (with_reducible exact number_Ints.mono _ _)
      | (with_reducible exact number_Read.mono _ _)
      | (with_reducible exact LeO.refl _)
      | (with_reducible exact LeO.none _)
      | (with_reducible refine LeO.ite ?_ ?_)
      | (with_reducible refine LeO.bind ?_ (fun _ => ?_))
      | exact ih0 _ _ _ _ _
      | exact ih1 _ _ _ _ _
      | exact ih2 _ _ _ _ _ _
      | exact ih3 _ _ _ _ _ _
      | exact ih4 _ _ _ _
      | exact ih5 _ _ _ _
      | exact ih6 _ _ _ _
      | exact decimal_Of.mono _ _
      | exact decimal_Right.mono _ _ _
      | exact decklelaw12_small.mono _
      | exact number_Decs.mono _ _
      | exact number_Ints.mono _ _
      | exact number_Read.mono _ _
      | exact LeO.none _
      | refine LeO.ite ?_ ?_
      | refine LeO.bind ?_ (fun _ => ?_)
    · intro y0 y1 y2 y3 y4 y5
      unfold decklelaw12_NumberBack_t.l0
      repeat' first
      | (with_reducible exact ih0 _ _ _ _ _)
      | (with_reducible exact ih1 _ _ _ _ _)
      | (with_reducible exact ih2 _ _ _ _ _ _)
      | (with_reducible exact ih3 _ _ _ _ _ _)
      | (with_reducible exact ih4 _ _ _ _)
      | (with_reducible exact ih5 _ _ _ _)
      | (with_reducible exact ih6 _ _ _ _)
      | (with_reducible exact decimal_Of.mono _ _)
      | (with_reducible exact decimal_Right.mono _ _ _)
      | (with_reducible exact decklelaw12_small.mono _)
      | (with_reducible exact number_Decs.mono _ _)
      | (with_reducible exact number_Ints.mono _ _)
      | (with_reducible exact number_Read.mono _ _)
      | (with_reducible exact LeO.refl _)
      | (with_reducible exact LeO.none _)
      | (with_reducible refine LeO.ite ?_ ?_)
      | (with_reducible refine LeO.bind ?_ (fun _ => ?_))
      | exact ih0 _ _ _ _ _
      | exact ih1 _ _ _ _ _
      | exact ih2 _ _ _ _ _ _
      | exact ih3 _ _ _ _ _ _
      | exact ih4 _ _ _ _
      | exact ih5 _ _ _ _
      | exact ih6 _ _ _ _
      | exact decimal_Of.mono _ _
      | exact decimal_Right.mono _ _ _
      | exact decklelaw12_small.mono _
      | exact number_Decs.mono _ _
      | exact number_Ints.mono _ _
      | exact number_Read.mono _ _
      | exact LeO.none _
      | refine LeO.ite ?_ ?_
      | refine LeO.bind ?_ (fun _ => ?_)
    · intro y0 y1 y2 y3
      unfold decklelaw12_NumberBack_t.l1
      repeat' first
      | (with_reducible exact ih0 _ _ _ _ _)
      | (with_reducible exact ih1 _ _ _ _ _)
      | (with_reducible exact ih2 _ _ _ _ _ _)
      | (with_reducible exact ih3 _ _ _ _ _ _)
      | (with_reducible exact ih4 _ _ _ _)
      | (with_reducible exact ih5 _ _ _ _)
      | (with_reducible exact ih6 _ _ _ _)
      | (with_reducible exact decimal_Of.mono _ _)
      | (with_reducible exact decimal_Right.mono _ _ _)
      | (with_reducible exact decklelaw12_small.mono _)
      | (with_reducible exact number_Decs.mono _ _)
      | (with_reducible exact number_Ints.mono _ _)
      | (with_reducible exact number_Read.mono _ _)
      | (with_reducible exact LeO.refl _)
      | (with_reducible exact LeO.none _)
      | (with_reducible refine LeO.ite ?_ ?_)
      | (with_reducible refine LeO.bind ?_ (fun _ => ?_))
      | exact ih0 _ _ _ _ _
      | exact ih1 _ _ _ _ _
      | exact ih2 _ _ _ _ _ _
      | exact ih3 _ _ _ _ _ _
      | exact ih4 _ _ _ _
      | exact ih5 _ _ _ _
      | exact ih6 _ _ _ _
      | exact decimal_Of.mono _ _
      | exact decimal_Right.mono _ _ _
      | exact decklelaw12_small.mono _
      | exact number_Decs.mono _ _
      | exact number_Ints.mono _ _
      | exact number_Read.mono _ _
      | exact LeO.none _
      | refine LeO.ite ?_ ?_
      | refine LeO.bind ?_ (fun _ => ?_)
    · intro y0 y1 y2 y3
      unfold decklelaw12_NumberBack_t.j5
      repeat' first
      | (with_reducible exact ih0 _ _ _ _ _)
      | (with_reducible exact ih1 _ _ _ _ _)
      | (with_reducible exact ih2 _ _ _ _ _ _)
      | (with_reducible exact ih3 _ _ _ _ _ _)
      | (with_reducible exact ih4 _ _ _ _)
      | (with_reducible exact ih5 _ _ _ _)
      | (with_reducible exact ih6 _ _ _ _)
      | (with_reducible exact decimal_Of.mono _ _)
      | (with_reducible exact decimal_Right.mono _ _ _)
      | (with_reducible exact decklelaw12_small.mono _)
      | (with_reducible exact number_Decs.mono _ _)
      | (with_reducible exact number_Ints.mono _ _)
      | (with_reducible exact number_Read.mono _ _)
      | (with_reducible exact LeO.refl _)
      | (with_reducible exact LeO.none _)
      | (with_reducible refine LeO.ite ?_ ?_)
      | (with_reducible refine LeO.bind ?_ (fun _ => ?_))
      | exact ih0 _ _ _ _ _
      | exact ih1 _ _ _ _ _
      | exact ih2 _ _ _ _ _ _
      | exact ih3 _ _ _ _ _ _
      | exact ih4 _ _ _ _
      | exact ih5 _ _ _ _
      | exact ih6 _ _ _ _
      | exact decimal_Of.mono _ _
      | exact decimal_Right.mono _ _ _
      | exact decklelaw12_small.mono _
      | exact number_Decs.mono _ _
      | exact number_Ints.mono _ _
      | exact number_Read.mono _ _
      | exact LeO.none _
      | refine LeO.ite ?_ ?_
      | refine LeO.bind ?_ (fun _ => ?_)
    · intro y0 y1 y2 y3
      unfold decklelaw12_NumberBack_t.l2
      repeat' first
      | (with_reducible exact ih0 _ _ _ _ _)
      | (with_reducible exact ih1 _ _ _ _ _)
      | (with_reducible exact ih2 _ _ _ _ _ _)
      | (with_reducible exact ih3 _ _ _ _ _ _)
      | (with_reducible exact ih4 _ _ _ _)
      | (with_reducible exact ih5 _ _ _ _)
      | (with_reducible exact ih6 _ _ _ _)
      | (with_reducible exact decimal_Of.mono _ _)
      | (with_reducible exact decimal_Right.mono _ _ _)
      | (with_reducible exact decklelaw12_small.mono _)
      | (with_reducible exact number_Decs.mono _ _)
      | (with_reducible exact number_Ints.mono _ _)
      | (with_reducible exact number_Read.mono _ _)
      | (with_reducible exact LeO.refl _)
      | (with_reducible exact LeO.none _)
      | (with_reducible refine LeO.ite ?_ ?_)
      | (with_reducible refine LeO.bind ?_ (fun _ => ?_))
      | exact ih0 _ _ _ _ _
      | exact ih1 _ _ _ _ _
      | exact ih2 _ _ _ _ _ _
      | exact ih3 _ _ _ _ _ _
      | exact ih4 _ _ _ _
      | exact ih5 _ _ _ _
      | exact ih6 _ _ _ _
      | exact decimal_Of.mono _ _
      | exact decimal_Right.mono _ _ _
      | exact decklelaw12_small.mono _
      | exact number_Decs.mono _ _
      | exact number_Ints.mono _ _
      | exact number_Read.mono _ _
      | exact LeO.none _
      | refine LeO.ite ?_ ?_
      | refine LeO.bind ?_ (fun _ => ?_)
theorem decklelaw12_NumberBack_t.mono : ∀ a0 a1 a2 k, LeO (decklelaw12_NumberBack_t.f k a0 a1 a2) (decklelaw12_NumberBack_t.f (k + 1) a0 a1 a2) := by
  intro a0 a1 a2 k
  obtain ⟨ih0, ih1, ih2, ih3, ih4, ih5, ih6⟩ := decklelaw12_NumberBack_t.mono_l k
  unfold decklelaw12_NumberBack_t.f
  repeat' first
      | (with_reducible exact ih0 _ _ _ _ _)
      | (with_reducible exact ih1 _ _ _ _ _)
      | (with_reducible exact ih2 _ _ _ _ _ _)
      | (with_reducible exact ih3 _ _ _ _ _ _)
      | (with_reducible exact ih4 _ _ _ _)
      | (with_reducible exact ih5 _ _ _ _)
      | (with_reducible exact ih6 _ _ _ _)
      | (with_reducible exact decimal_Of.mono _ _)
      | (with_reducible exact decimal_Right.mono _ _ _)
      | (with_reducible exact decklelaw12_small.mono _)
      | (with_reducible exact number_Decs.mono _ _)
      | (with_reducible exact number_Ints.mono _ _)
      | (with_reducible exact number_Read.mono _ _)
      | (with_reducible exact LeO.refl _)
      | (with_reducible exact LeO.none _)
      | (with_reducible refine LeO.ite ?_ ?_)
      | (with_reducible refine LeO.bind ?_ (fun _ => ?_))
      | exact ih0 _ _ _ _ _
      | exact ih1 _ _ _ _ _
      | exact ih2 _ _ _ _ _ _
      | exact ih3 _ _ _ _ _ _
      | exact ih4 _ _ _ _
      | exact ih5 _ _ _ _
      | exact ih6 _ _ _ _
      | exact decimal_Of.mono _ _
      | exact decimal_Right.mono _ _ _
      | exact decklelaw12_small.mono _
      | exact number_Decs.mono _ _
      | exact number_Ints.mono _ _
      | exact number_Read.mono _ _
      | exact LeO.none _
      | refine LeO.ite ?_ ?_
      | refine LeO.bind ?_ (fun _ => ?_)
def decklelaw12_NumberBack_t.T12 : Bool × List (List Nat × List Nat) := (true, [([], []), ([], []), ([0, 1], [0, 1]), ([2], [2]), ([], []), ([], []), ([4, 5], [4, 5]), ([6], [6]), ([7], [7]), ([3, 8], [3, 8])])
def decklelaw12_NumberBack_t.B12 : List Nat := [0, 0, 3, 7, 0, 0, 48, 112, 240, 511]
theorem decklelaw12_NumberBack_t.tab12 : rtab .any (opsOf Tryd.f4 12) = decklelaw12_NumberBack_t.T12 := by kernel_rfl
theorem decklelaw12_NumberBack_t.bits12 : waitsOk decklelaw12_NumberBack_t.T12.2 decklelaw12_NumberBack_t.B12 = true := by kernel_rfl
def decklelaw12_NumberBack_t.T25 : Bool × List (List Nat × List Nat) := (true, [([], []), ([], []), ([0, 1], [0, 1]), ([2], [2]), ([], []), ([], []), ([4, 5], [4, 5]), ([6], [6]), ([3, 7], [3, 7])])
def decklelaw12_NumberBack_t.B25 : List Nat := [0, 0, 3, 7, 0, 0, 48, 112, 255]
theorem decklelaw12_NumberBack_t.tab25 : rtab .any (opsOf Tryd.f4 25) = decklelaw12_NumberBack_t.T25 := by kernel_rfl
theorem decklelaw12_NumberBack_t.bits25 : waitsOk decklelaw12_NumberBack_t.T25.2 decklelaw12_NumberBack_t.B25 = true := by kernel_rfl
set_option maxHeartbeats 8000000 in
set_option maxRecDepth 100000 in
theorem decklelaw12_NumberBack_t.calls (k : Nat) (A0 : Option Addr) (c0 : Nat) (l0 : List Int) (A1 : Option Addr) (c1 : Nat) (l1 : List (S28)) (a2 : ByteArray) (r : Bool) (w : World) (hT : Tabs w) (hr : r = true) (hr0 : Kd.C (Kd.int .i64) w A0 l0.length l0) (hc0 : l0.length ≤ c0) (hr1 : Kd.C k28 w A1 l1.length l1) (hc1 : l1.length ≤ c1) (h : decklelaw12_NumberBack_t.f k l0 l1 a2 = some r) :
    Calls Tryd.prog 4 #[.slice A0 l0.length c0, .slice A1 l1.length c1, .string a2] w fun e w' => e = .returned (.bool r) ∧ Below w.heap.size w w' := by
  have hu28 := Tryd.underlying28
  have HR0 := Aside0.mk hr0
  have HC0 := Aside0.mk hc0
  clear hr0 hc0
  have HR1 := Aside0.mk hr1
  have HC1 := Aside0.mk hc1
  clear hr1 hc1
  have HB := Aside0.mk (Below.refl w.heap.size w)
  have H : ((decklelaw12_small.f k).bind fun t297 => (if (l0.length : Int) < 1 then (decklelaw12_NumberBack_t.j0 k l0 l1 a2 t297 true) else (if (l0.length : Int) > 100 then (decklelaw12_NumberBack_t.j0 k l0 l1 a2 t297 true) else (if (l1.length : Int) < 1 then (decklelaw12_NumberBack_t.j0 k l0 l1 a2 t297 true) else (if (l1.length : Int) > 100 then (decklelaw12_NumberBack_t.j0 k l0 l1 a2 t297 true) else (decklelaw12_NumberBack_t.j0 k l0 l1 a2 t297 (decide ((a2.size : Int) > 200)))))))) = some r := h
  clear h
  replace H := Option.bind_eq_some_iff.mp H
  obtain ⟨t297, A40, H⟩ := H
  have A4 := Aside0.mk A40; clear A40
  have HC5 := Aside0.mk H
  clear H
  go_enter Tryd.func4, Tryd.ntmps4
  go_upto_region 2 with (first | ((with_reducible refine gate_callee (f := 8) rfl ?_); refine goesL_ (some 17) rfl rfl Tryd.func8 (by kernel_rfl) rfl #[] rfl (by (try simp only [List.map_toArray, List.map_cons, List.map_nil]); first | done | rfl | (simp only [List.length_drop, List.length_take]; rfl)) ?_; (with_reducible refine (decklelaw12_small.calls k  t297 _ ?side1 A4.out).mono ?_); (case side1 => first | exact hT | ((repeat (with_reducible first | exact hT | apply Tabs.drewN | apply Tabs.drew)); done) | exact Tabs.below hT (by repeat (first | (with_reducible first | exact HB.out | apply below_alloc | apply pw_below_drewN | apply below_drew1) | exact HB.out))); rintro e w6 ⟨rfl, hb⟩; refine ⟨_, rfl, ?_⟩; have n0_ := Aside0.mk (below_step (by repeat (first | (with_reducible first | exact HB.out | apply below_alloc | apply pw_below_drewN | apply below_drew1) | exact HB.out)) hb); clear HB; have HB := n0_; clear n0_; (try clear hb); (try clear hb2); (try clear hk); (try clear hi)))
  (try simp only [Act.put, List.setIfInBounds_toArray, List.set_cons_zero, List.set_cons_succ])
  go_cut [40] (fun v40 wc => ∃ (kq : Nat) (x40_4 : Bool), v40 = .bool x40_4 ∧ Aside0 (decklelaw12_NumberBack_t.j0 kq l0 l1 a2 t297 x40_4 = some r) ∧ Aside0 (kq ≤ k) ∧ Aside0 (Below w.heap.size w wc))
  case first =>
    have H := HC5.out
    clear HC5
    by_cases c7 : (l0.length : Int) < 1
    · rw [if_pos c7] at H
      have c7b0 : decide ((l0.length : Int) < 1) = true := decide_eq_true c7
      have c7b1 : decide (l0.length < 1) = true := decide_eq_true (by omega)
      clear c7
      (first | rw [c7b0] | (simp only [i64_w, i32_w]; rw [c7b0]) | skip)
      have H' := Aside0.mk H
      clear H
      go_wp2
      go_meet
      case rel => exact ⟨_, (true), (by first | rfl | (simp; done) | (simp [*]; done)), H', ⟨by first | omega | exact Nat.le_refl _⟩, ⟨by repeat (first | (with_reducible first | exact HB.out | apply below_alloc | apply pw_below_drewN | apply below_drew1) | exact HB.out)⟩⟩
    · rw [if_neg c7] at H
      have c7b0 : decide ((l0.length : Int) < 1) = false := decide_eq_false c7
      have c7b1 : decide (l0.length < 1) = false := decide_eq_false (by omega)
      clear c7
      (first | rw [c7b0] | (simp only [i64_w, i32_w]; rw [c7b0]) | skip)
      by_cases c8 : (l0.length : Int) > 100
      · rw [if_pos c8] at H
        have c8b0 : decide (100 < (l0.length : Int)) = true := decide_eq_true c8
        have c8b1 : decide (100 < l0.length) = true := decide_eq_true (by omega)
        clear c8
        have H' := Aside0.mk H
        clear H
        go_wp2
        go_meet
        case rel => exact ⟨_, (true), (by first | rfl | (simp; done) | (simp [*]; done)), H', ⟨by first | omega | exact Nat.le_refl _⟩, ⟨by repeat (first | (with_reducible first | exact HB.out | apply below_alloc | apply pw_below_drewN | apply below_drew1) | exact HB.out)⟩⟩
      · rw [if_neg c8] at H
        have c8b0 : decide (100 < (l0.length : Int)) = false := decide_eq_false c8
        have c8b1 : decide (100 < l0.length) = false := decide_eq_false (by omega)
        clear c8
        by_cases c9 : (l1.length : Int) < 1
        · rw [if_pos c9] at H
          have c9b0 : decide ((l1.length : Int) < 1) = true := decide_eq_true c9
          have c9b1 : decide (l1.length < 1) = true := decide_eq_true (by omega)
          clear c9
          have H' := Aside0.mk H
          clear H
          go_wp2
          go_meet
          case rel => exact ⟨_, (true), (by first | rfl | (simp; done) | (simp [*]; done)), H', ⟨by first | omega | exact Nat.le_refl _⟩, ⟨by repeat (first | (with_reducible first | exact HB.out | apply below_alloc | apply pw_below_drewN | apply below_drew1) | exact HB.out)⟩⟩
        · rw [if_neg c9] at H
          have c9b0 : decide ((l1.length : Int) < 1) = false := decide_eq_false c9
          have c9b1 : decide (l1.length < 1) = false := decide_eq_false (by omega)
          clear c9
          by_cases c10 : (l1.length : Int) > 100
          · rw [if_pos c10] at H
            have c10b0 : decide (100 < (l1.length : Int)) = true := decide_eq_true c10
            have c10b1 : decide (100 < l1.length) = true := decide_eq_true (by omega)
            clear c10
            have H' := Aside0.mk H
            clear H
            go_wp2
            go_meet
            case rel => exact ⟨_, (true), (by first | rfl | (simp; done) | (simp [*]; done)), H', ⟨by first | omega | exact Nat.le_refl _⟩, ⟨by repeat (first | (with_reducible first | exact HB.out | apply below_alloc | apply pw_below_drewN | apply below_drew1) | exact HB.out)⟩⟩
          · rw [if_neg c10] at H
            have c10b0 : decide (100 < (l1.length : Int)) = false := decide_eq_false c10
            have c10b1 : decide (100 < l1.length) = false := decide_eq_false (by omega)
            clear c10
            have H' := Aside0.mk H
            clear H
            go_wp2
            go_meet
            case rel => exact ⟨_, (decide ((a2.size : Int) > 200)), (by first | rfl | (simp; done) | (simp [*]; done)), H', ⟨by first | omega | exact Nat.le_refl _⟩, ⟨by repeat (first | (with_reducible first | exact HB.out | apply below_alloc | apply pw_below_drewN | apply below_drew1) | exact HB.out)⟩⟩
  case rest =>
    clear HC5
    try clear c1
    try clear p2
    try clear c4
    try clear c7
    try clear c7b0
    try clear c7b1
    try clear c8
    try clear c8b0
    try clear c8b1
    try clear c9
    try clear c9b0
    try clear c9b1
    try clear c10
    try clear c10b0
    try clear c10b1
    obtain ⟨kq, x40_4, rfl, HA, HJ4, HB⟩ := hcut
    cases kq with
    | zero => exact absurd HA.out (by simp [decklelaw12_NumberBack_t.j0])
    | succ kj4 =>
      have H := HA.out
      clear HA
      simp only [decklelaw12_NumberBack_t.j0] at H
      by_cases c11 : x40_4 = true
      · subst c11
        rw [if_pos rfl] at H
        clear hr
        obtain rfl := Option.some.inj H
        go_wp2
        go_ret
        exact ⟨by first | rfl | (simp [errW_none, errW_some] <;> rfl) | (simp [*, errW_none, errW_some] <;> rfl) | (simp [errW_none, errW_some, bne_nil_, beq_nil_]; done) | (simp [*, errW_none, errW_some, bne_nil_, beq_nil_]; done), by repeat (first | (with_reducible first | exact HB.out | apply below_alloc | apply pw_below_drewN | apply below_drew1) | exact HB.out)⟩
      · replace c11 := Bool.eq_false_iff.mpr c11
        subst c11
        rw [if_neg (show ¬ (false = true) by decide)] at H
        have HC12 := Aside0.mk H
        clear H
        go_upto_region 4 with (fail)
        go_cut [68] (fun v68 wc => ∃ (kq : Nat) (x68_11 : Bool), v68 = .bool x68_11 ∧ Aside0 (decklelaw12_NumberBack_t.j1 kq l0 l1 a2 t297 x68_11 = some r) ∧ Aside0 (kq ≤ kj4) ∧ Aside0 (Below w.heap.size w wc))
        case first =>
          have H := HC12.out
          clear HC12
          by_cases c13 : a2.toList = ([] : List UInt8)
          · rw [if_pos c13] at H
            have c13b0 : (a2.toList == ([] : List UInt8)) = true := beq_iff_eq.mpr c13
            have c13b1 : (a2.toList != ([] : List UInt8)) = false := bne_eq_false_iff_eq.mpr c13
            clear c13
            (first | rw [c13b0] | (simp only [i64_w, i32_w]; rw [c13b0]) | skip)
            have H' := Aside0.mk H
            clear H
            go_wp2
            go_meet
            case rel => exact ⟨_, (false), (by first | rfl | (simp; done) | (simp [*]; done)), H', ⟨by have := HJ4.out; first | omega | exact Nat.le_refl _⟩, ⟨by repeat (first | (with_reducible first | exact HB.out | apply below_alloc | apply pw_below_drewN | apply below_drew1) | exact HB.out)⟩⟩
          · rw [if_neg c13] at H
            have c13b0 : (a2.toList == ([] : List UInt8)) = false := beq_eq_false_iff_ne.mpr c13
            have c13b1 : (a2.toList != ([] : List UInt8)) = true := bne_iff_ne.mpr c13
            (first | rw [c13b0] | (simp only [i64_w, i32_w]; rw [c13b0]) | skip)
            by_cases c14 : 0 < (a2.size : Int)
            · rw [if_pos c14] at H
              have c14b0 : decide (0 < (a2.size : Int)) = true := decide_eq_true c14
              have c14b1 : decide (0 < a2.size) = true := decide_eq_true (by omega)
              clear c14
              by_cases c16 : (bt a2 0) = 32
              · rw [if_pos c16] at H
                have c16b0 : ((bt a2 0) == 32) = true := beq_iff_eq.mpr c16
                have c16b1 : ((bt a2 0) != 32) = false := bne_eq_false_iff_eq.mpr c16
                clear c16
                have H' := Aside0.mk H
                clear H
                have p15 : 0 ≤ (0 : Int) := (by omega)
                have q15 : 0 < a2.size := (by have : (0 : Int) < (a2.size : Int) := of_decide_eq_true (by first | (with_reducible assumption) | assumption); omega)
                have hx15 : ∀ h : 0 < a2.size, ((a2[0]'h).toNat : Int) = bt a2 0 := bt_at a2 0
                clear p15
                have qi15 : (0 < (a2.size : Int)) = True := eq_true (of_decide_eq_true (by first | (with_reducible assumption) | assumption))
                replace q15 := eq_true q15
                go_wp2
                go_meet
                case rel => exact ⟨_, (true), (by first | rfl | (simp; done) | (simp [*]; done)), H', ⟨by have := HJ4.out; first | omega | exact Nat.le_refl _⟩, ⟨by repeat (first | (with_reducible first | exact HB.out | apply below_alloc | apply pw_below_drewN | apply below_drew1) | exact HB.out)⟩⟩
              · rw [if_neg c16] at H
                have c16b0 : ((bt a2 0) == 32) = false := beq_eq_false_iff_ne.mpr c16
                have c16b1 : ((bt a2 0) != 32) = true := bne_iff_ne.mpr c16
                by_cases c18 : (bt a2 0) = 69
                · rw [if_pos c18] at H
                  have c18b0 : ((bt a2 0) == 69) = true := beq_iff_eq.mpr c18
                  have c18b1 : ((bt a2 0) != 69) = false := bne_eq_false_iff_eq.mpr c18
                  clear c18
                  have H' := Aside0.mk H
                  clear H
                  have p15 : 0 ≤ (0 : Int) := (by omega)
                  have q15 : 0 < a2.size := (by have : (0 : Int) < (a2.size : Int) := of_decide_eq_true (by first | (with_reducible assumption) | assumption); omega)
                  have hx15 : ∀ h : 0 < a2.size, ((a2[0]'h).toNat : Int) = bt a2 0 := bt_at a2 0
                  clear p15
                  have qi15 : (0 < (a2.size : Int)) = True := eq_true (of_decide_eq_true (by first | (with_reducible assumption) | assumption))
                  replace q15 := eq_true q15
                  have p17 : 0 ≤ (0 : Int) := (by omega)
                  have q17 : 0 < a2.size := (by have : (0 : Int) < (a2.size : Int) := of_decide_eq_true (by first | (with_reducible assumption) | assumption); omega)
                  have hx17 : ∀ h : 0 < a2.size, ((a2[0]'h).toNat : Int) = bt a2 0 := bt_at a2 0
                  clear p17
                  have qi17 : (0 < (a2.size : Int)) = True := eq_true (of_decide_eq_true (by first | (with_reducible assumption) | assumption))
                  replace q17 := eq_true q17
                  go_wp2
                  go_meet
                  case rel => exact ⟨_, (true), (by first | rfl | (simp; done) | (simp [*]; done)), H', ⟨by have := HJ4.out; first | omega | exact Nat.le_refl _⟩, ⟨by repeat (first | (with_reducible first | exact HB.out | apply below_alloc | apply pw_below_drewN | apply below_drew1) | exact HB.out)⟩⟩
                · rw [if_neg c18] at H
                  have c18b0 : ((bt a2 0) == 69) = false := beq_eq_false_iff_ne.mpr c18
                  have c18b1 : ((bt a2 0) != 69) = true := bne_iff_ne.mpr c18
                  by_cases c20 : (bt a2 0) ≥ 48
                  · rw [if_pos c20] at H
                    have c20b0 : decide (48 ≤ (bt a2 0)) = true := decide_eq_true c20
                    clear c20
                    by_cases c22 : (bt a2 0) ≤ 57
                    · rw [if_pos c22] at H
                      have c22b0 : decide ((bt a2 0) ≤ 57) = true := decide_eq_true c22
                      clear c22
                      have H' := Aside0.mk H
                      clear H
                      have p15 : 0 ≤ (0 : Int) := (by omega)
                      have q15 : 0 < a2.size := (by have : (0 : Int) < (a2.size : Int) := of_decide_eq_true (by first | (with_reducible assumption) | assumption); omega)
                      have hx15 : ∀ h : 0 < a2.size, ((a2[0]'h).toNat : Int) = bt a2 0 := bt_at a2 0
                      clear p15
                      have qi15 : (0 < (a2.size : Int)) = True := eq_true (of_decide_eq_true (by first | (with_reducible assumption) | assumption))
                      replace q15 := eq_true q15
                      have p17 : 0 ≤ (0 : Int) := (by omega)
                      have q17 : 0 < a2.size := (by have : (0 : Int) < (a2.size : Int) := of_decide_eq_true (by first | (with_reducible assumption) | assumption); omega)
                      have hx17 : ∀ h : 0 < a2.size, ((a2[0]'h).toNat : Int) = bt a2 0 := bt_at a2 0
                      clear p17
                      have qi17 : (0 < (a2.size : Int)) = True := eq_true (of_decide_eq_true (by first | (with_reducible assumption) | assumption))
                      replace q17 := eq_true q17
                      have p19 : 0 ≤ (0 : Int) := (by omega)
                      have q19 : 0 < a2.size := (by have : (0 : Int) < (a2.size : Int) := of_decide_eq_true (by first | (with_reducible assumption) | assumption); omega)
                      have hx19 : ∀ h : 0 < a2.size, ((a2[0]'h).toNat : Int) = bt a2 0 := bt_at a2 0
                      clear p19
                      have qi19 : (0 < (a2.size : Int)) = True := eq_true (of_decide_eq_true (by first | (with_reducible assumption) | assumption))
                      replace q19 := eq_true q19
                      have p21 : 0 ≤ (0 : Int) := (by omega)
                      have q21 : 0 < a2.size := (by have : (0 : Int) < (a2.size : Int) := of_decide_eq_true (by first | (with_reducible assumption) | assumption); omega)
                      have hx21 : ∀ h : 0 < a2.size, ((a2[0]'h).toNat : Int) = bt a2 0 := bt_at a2 0
                      clear p21
                      have qi21 : (0 < (a2.size : Int)) = True := eq_true (of_decide_eq_true (by first | (with_reducible assumption) | assumption))
                      replace q21 := eq_true q21
                      go_wp2
                      go_meet
                      case rel => exact ⟨_, (true), (by first | rfl | (simp; done) | (simp [*]; done)), H', ⟨by have := HJ4.out; first | omega | exact Nat.le_refl _⟩, ⟨by repeat (first | (with_reducible first | exact HB.out | apply below_alloc | apply pw_below_drewN | apply below_drew1) | exact HB.out)⟩⟩
                    · rw [if_neg c22] at H
                      have c22b0 : decide ((bt a2 0) ≤ 57) = false := decide_eq_false c22
                      clear c22
                      have H' := Aside0.mk H
                      clear H
                      have p15 : 0 ≤ (0 : Int) := (by omega)
                      have q15 : 0 < a2.size := (by have : (0 : Int) < (a2.size : Int) := of_decide_eq_true (by first | (with_reducible assumption) | assumption); omega)
                      have hx15 : ∀ h : 0 < a2.size, ((a2[0]'h).toNat : Int) = bt a2 0 := bt_at a2 0
                      clear p15
                      have qi15 : (0 < (a2.size : Int)) = True := eq_true (of_decide_eq_true (by first | (with_reducible assumption) | assumption))
                      replace q15 := eq_true q15
                      have p17 : 0 ≤ (0 : Int) := (by omega)
                      have q17 : 0 < a2.size := (by have : (0 : Int) < (a2.size : Int) := of_decide_eq_true (by first | (with_reducible assumption) | assumption); omega)
                      have hx17 : ∀ h : 0 < a2.size, ((a2[0]'h).toNat : Int) = bt a2 0 := bt_at a2 0
                      clear p17
                      have qi17 : (0 < (a2.size : Int)) = True := eq_true (of_decide_eq_true (by first | (with_reducible assumption) | assumption))
                      replace q17 := eq_true q17
                      have p19 : 0 ≤ (0 : Int) := (by omega)
                      have q19 : 0 < a2.size := (by have : (0 : Int) < (a2.size : Int) := of_decide_eq_true (by first | (with_reducible assumption) | assumption); omega)
                      have hx19 : ∀ h : 0 < a2.size, ((a2[0]'h).toNat : Int) = bt a2 0 := bt_at a2 0
                      clear p19
                      have qi19 : (0 < (a2.size : Int)) = True := eq_true (of_decide_eq_true (by first | (with_reducible assumption) | assumption))
                      replace q19 := eq_true q19
                      have p21 : 0 ≤ (0 : Int) := (by omega)
                      have q21 : 0 < a2.size := (by have : (0 : Int) < (a2.size : Int) := of_decide_eq_true (by first | (with_reducible assumption) | assumption); omega)
                      have hx21 : ∀ h : 0 < a2.size, ((a2[0]'h).toNat : Int) = bt a2 0 := bt_at a2 0
                      clear p21
                      have qi21 : (0 < (a2.size : Int)) = True := eq_true (of_decide_eq_true (by first | (with_reducible assumption) | assumption))
                      replace q21 := eq_true q21
                      have p23 : 0 ≤ (0 : Int) := (by omega)
                      have q23 : 0 < a2.size := (by have : (0 : Int) < (a2.size : Int) := of_decide_eq_true (by first | (with_reducible assumption) | assumption); omega)
                      have hx23 : ∀ h : 0 < a2.size, ((a2[0]'h).toNat : Int) = bt a2 0 := bt_at a2 0
                      clear p23
                      have qi23 : (0 < (a2.size : Int)) = True := eq_true (of_decide_eq_true (by first | (with_reducible assumption) | assumption))
                      replace q23 := eq_true q23
                      go_wp2
                      go_meet
                      case rel => exact ⟨_, (((bt a2 0) == 194)), (by first | rfl | (simp; done) | (simp [*]; done)), H', ⟨by have := HJ4.out; first | omega | exact Nat.le_refl _⟩, ⟨by repeat (first | (with_reducible first | exact HB.out | apply below_alloc | apply pw_below_drewN | apply below_drew1) | exact HB.out)⟩⟩
                  · rw [if_neg c20] at H
                    have c20b0 : decide (48 ≤ (bt a2 0)) = false := decide_eq_false c20
                    clear c20
                    have H' := Aside0.mk H
                    clear H
                    have p15 : 0 ≤ (0 : Int) := (by omega)
                    have q15 : 0 < a2.size := (by have : (0 : Int) < (a2.size : Int) := of_decide_eq_true (by first | (with_reducible assumption) | assumption); omega)
                    have hx15 : ∀ h : 0 < a2.size, ((a2[0]'h).toNat : Int) = bt a2 0 := bt_at a2 0
                    clear p15
                    have qi15 : (0 < (a2.size : Int)) = True := eq_true (of_decide_eq_true (by first | (with_reducible assumption) | assumption))
                    replace q15 := eq_true q15
                    have p17 : 0 ≤ (0 : Int) := (by omega)
                    have q17 : 0 < a2.size := (by have : (0 : Int) < (a2.size : Int) := of_decide_eq_true (by first | (with_reducible assumption) | assumption); omega)
                    have hx17 : ∀ h : 0 < a2.size, ((a2[0]'h).toNat : Int) = bt a2 0 := bt_at a2 0
                    clear p17
                    have qi17 : (0 < (a2.size : Int)) = True := eq_true (of_decide_eq_true (by first | (with_reducible assumption) | assumption))
                    replace q17 := eq_true q17
                    have p19 : 0 ≤ (0 : Int) := (by omega)
                    have q19 : 0 < a2.size := (by have : (0 : Int) < (a2.size : Int) := of_decide_eq_true (by first | (with_reducible assumption) | assumption); omega)
                    have hx19 : ∀ h : 0 < a2.size, ((a2[0]'h).toNat : Int) = bt a2 0 := bt_at a2 0
                    clear p19
                    have qi19 : (0 < (a2.size : Int)) = True := eq_true (of_decide_eq_true (by first | (with_reducible assumption) | assumption))
                    replace q19 := eq_true q19
                    have p24 : 0 ≤ (0 : Int) := (by omega)
                    have q24 : 0 < a2.size := (by have : (0 : Int) < (a2.size : Int) := of_decide_eq_true (by first | (with_reducible assumption) | assumption); omega)
                    have hx24 : ∀ h : 0 < a2.size, ((a2[0]'h).toNat : Int) = bt a2 0 := bt_at a2 0
                    clear p24
                    have qi24 : (0 < (a2.size : Int)) = True := eq_true (of_decide_eq_true (by first | (with_reducible assumption) | assumption))
                    replace q24 := eq_true q24
                    go_wp2
                    go_meet
                    case rel => exact ⟨_, (((bt a2 0) == 194)), (by first | rfl | (simp; done) | (simp [*]; done)), H', ⟨by have := HJ4.out; first | omega | exact Nat.le_refl _⟩, ⟨by repeat (first | (with_reducible first | exact HB.out | apply below_alloc | apply pw_below_drewN | apply below_drew1) | exact HB.out)⟩⟩
            · rw [if_neg c14] at H
              exact absurd H (by simp)
        case rest =>
          clear HC12
          try clear c1
          try clear p1
          try clear q1
          try clear hx1
          try clear qi1
          try clear c2
          try clear p2
          try clear q2
          try clear hx2
          try clear qi2
          try clear c4
          try clear c7
          try clear c7b0
          try clear c7b1
          try clear c8
          try clear c8b0
          try clear c8b1
          try clear c9
          try clear c9b0
          try clear c9b1
          try clear c10
          try clear c10b0
          try clear c10b1
          try clear c11
          try clear c13
          try clear c13b0
          try clear c13b1
          try clear c14
          try clear c14b0
          try clear c14b1
          try clear p15
          try clear q15
          try clear hx15
          try clear qi15
          try clear c16
          try clear c16b0
          try clear c16b1
          try clear p17
          try clear q17
          try clear hx17
          try clear qi17
          try clear c18
          try clear c18b0
          try clear c18b1
          try clear p19
          try clear q19
          try clear hx19
          try clear qi19
          try clear c20
          try clear c20b0
          try clear p21
          try clear q21
          try clear hx21
          try clear qi21
          try clear c22
          try clear c22b0
          try clear p23
          try clear q23
          try clear hx23
          try clear qi23
          try clear p24
          try clear q24
          try clear hx24
          try clear qi24
          try clear p15
          try clear p17
          try clear p19
          try clear p2
          try clear p21
          try clear p23
          try clear p24
          try clear q15
          try clear q17
          try clear q19
          try clear q21
          try clear q23
          try clear q24
          obtain ⟨kq, x68_11, rfl, HA, HJ11, HB⟩ := hcut
          cases kq with
          | zero => exact absurd HA.out (by simp [decklelaw12_NumberBack_t.j1])
          | succ kj11 =>
            have H := HA.out
            clear HA
            simp only [decklelaw12_NumberBack_t.j1] at H
            by_cases c25 : x68_11 = true
            · subst c25
              rw [if_pos rfl] at H
              clear hr
              obtain rfl := Option.some.inj H
              go_wp2
              go_ret
              exact ⟨by first | rfl | (simp [errW_none, errW_some] <;> rfl) | (simp [*, errW_none, errW_some] <;> rfl) | (simp [errW_none, errW_some, bne_nil_, beq_nil_]; done) | (simp [*, errW_none, errW_some, bne_nil_, beq_nil_]; done), by repeat (first | (with_reducible first | exact HB.out | apply below_alloc | apply pw_below_drewN | apply below_drew1) | exact HB.out)⟩
            · replace c25 := Bool.eq_false_iff.mpr c25
              subst c25
              rw [if_neg (show ¬ (false = true) by decide)] at H
              replace H := Option.bind_eq_some_iff.mp H
              obtain ⟨t298, A260, H⟩ := H
              have A26 := Aside0.mk A260; clear A260
              by_cases c27 : t298.size + a2.size ≤ 9223372036854775807
              · rw [if_pos c27] at H
                have c27b0 := eq_true c27
                have c27b1 : decide (t298.size + a2.size ≤ 9223372036854775807) = true := decide_eq_true c27
                try have c27b2 : (9223372036854775807 < t298.size + a2.size) = False := eq_false (Nat.not_lt.2 c27)
                replace H := Option.bind_eq_some_iff.mp H
                obtain ⟨⟨t299, t300, t301⟩, A280, H⟩ := H
                try dsimp only at H
                have A28 := Aside0.mk A280; clear A280
                have HC29 := Aside0.mk H
                clear H
                go_upto_region 7 with (first | ((with_reducible refine gate_callee (f := 11) rfl ?_); refine goesL_ (some 72) rfl rfl Tryd.func11 (by kernel_rfl) rfl #[.slice A0 l0.length c0] rfl (by (try simp only [List.map_toArray, List.map_cons, List.map_nil]); first | done | rfl | (simp only [List.length_drop, List.length_take]; rfl)) ?_; (with_reducible refine (number_Ints.calls kj11 _ _ l0 t298 _ ?side1 ?side2 ?side3 A26.out).mono ?_); (case side1 => first | exact hT | ((repeat (with_reducible first | exact hT | apply Tabs.drewN | apply Tabs.drew)); done) | exact Tabs.below hT (by repeat (first | (with_reducible first | exact HB.out | apply below_alloc | apply pw_below_drewN | apply below_drew1) | exact HB.out))); (case side2 => repeat (first | exact (Kd.C_below HR0.out HB.out) | (with_reducible refine Kd.C_alloc ?_ _) | (with_reducible refine Kd.C_drewN ?_ _) | (with_reducible refine Kd.C_drew ?_))); (case side3 => exact HC0.out); rintro e w30 ⟨rfl, hb⟩; refine ⟨_, rfl, ?_⟩; have n0_ := Aside0.mk (below_step (by repeat (first | (with_reducible first | exact HB.out | apply below_alloc | apply pw_below_drewN | apply below_drew1) | exact HB.out)) hb); clear HB; have HB := n0_; clear n0_; (try clear hb); (try clear hb2); (try clear hk); (try clear hi)) | ((with_reducible refine gate_callee (f := 9) rfl ?_); refine goesL_ (some 75) rfl rfl Tryd.func9 (by kernel_rfl) rfl #[.string (t298 ++ a2)] rfl (by (try simp only [List.map_toArray, List.map_cons, List.map_nil]); first | done | rfl | (simp only [List.length_drop, List.length_take]; rfl)) ?_; (with_reducible refine (number_Read.calls kj11 (t298 ++ a2) t299 t300 t301 _ ?side1 A28.out).mono ?_); (case side1 => first | exact hT | ((repeat (with_reducible first | exact hT | apply Tabs.drewN | apply Tabs.drew)); done) | exact Tabs.below hT (by repeat (first | (with_reducible first | exact HB.out | apply below_alloc | apply pw_below_drewN | apply below_drew1) | exact HB.out))); rintro e w31 ⟨v302, rfl, ho0, hb⟩; refine ⟨_, rfl, ?_⟩; have n0_ := Aside0.mk (Kd.R_lower ho0 (below_size (by repeat (first | (with_reducible first | exact HB.out | apply below_alloc | apply pw_below_drewN | apply below_drew1) | exact HB.out)))); have n1_ := Aside0.mk (below_step (by repeat (first | (with_reducible first | exact HB.out | apply below_alloc | apply pw_below_drewN | apply below_drew1) | exact HB.out)) hb); clear HB; have HO303 := n0_; have HB := n1_; clear n0_ n1_; (try clear hb); (try clear hb2); (try clear hk); (try clear hi); (try clear ho0)))
                (try simp only [Act.put, List.setIfInBounds_toArray, List.set_cons_zero, List.set_cons_succ])
                go_cut [92] (fun v92 wc => ∃ (kq : Nat) (x92_28 : Bool), v92 = .bool x92_28 ∧ Aside0 (decklelaw12_NumberBack_t.j2 kq l0 l1 a2 t297 t299 x92_28 = some r) ∧ Aside0 (kq ≤ kj11) ∧ Aside0 (Kd.R k28 28 wc w.heap.size (fun _ => True) v302 t299) ∧ Aside0 (Below w.heap.size w wc))
                case first =>
                  have H := HC29.out
                  clear HC29
                  by_cases c32 : t301 = true
                  · subst c32
                    rw [if_pos rfl] at H
                    by_cases c33 : t300.toList = a2.toList
                    · rw [if_pos c33] at H
                      have c33b0 : (t300.toList == a2.toList) = true := beq_iff_eq.mpr c33
                      have c33b1 : (t300.toList != a2.toList) = false := bne_eq_false_iff_eq.mpr c33
                      clear c33
                      (first | rw [c33b0] | (simp only [i64_w, i32_w]; rw [c33b0]) | skip)
                      have H' := Aside0.mk H
                      clear H
                      obtain ⟨Ao34, co34, eo34⟩ := Kd.R_slice HO303.out
                      subst eo34
                      go_wp2
                      go_meet
                      case rel => exact ⟨_, (((t299.length : Int) != (l0.length : Int))), (by first | rfl | (simp; done) | (simp [*]; done)), H', ⟨by have := HJ4.out; have := HJ11.out; first | omega | exact Nat.le_refl _⟩, ⟨by (with_reducible repeat (first | apply Kd.R_alloc | apply Kd.R_drewN | apply Kd.R_drew)); exact HO303.out⟩, ⟨by repeat (first | (with_reducible first | exact HB.out | apply below_alloc | apply pw_below_drewN | apply below_drew1) | exact HB.out)⟩⟩
                    · rw [if_neg c33] at H
                      have c33b0 : (t300.toList == a2.toList) = false := beq_eq_false_iff_ne.mpr c33
                      have c33b1 : (t300.toList != a2.toList) = true := bne_iff_ne.mpr c33
                      (first | rw [c33b0] | (simp only [i64_w, i32_w]; rw [c33b0]) | skip)
                      have H' := Aside0.mk H
                      clear H
                      go_wp2
                      go_meet
                      case rel => exact ⟨_, (true), (by first | rfl | (simp; done) | (simp [*]; done)), H', ⟨by have := HJ4.out; have := HJ11.out; first | omega | exact Nat.le_refl _⟩, ⟨by (with_reducible repeat (first | apply Kd.R_alloc | apply Kd.R_drewN | apply Kd.R_drew)); exact HO303.out⟩, ⟨by repeat (first | (with_reducible first | exact HB.out | apply below_alloc | apply pw_below_drewN | apply below_drew1) | exact HB.out)⟩⟩
                  · replace c32 := Bool.eq_false_iff.mpr c32
                    subst c32
                    rw [if_neg (show ¬ (false = true) by decide)] at H
                    have H' := Aside0.mk H
                    clear H
                    go_wp2
                    go_meet
                    case rel => exact ⟨_, (true), (by first | rfl | (simp; done) | (simp [*]; done)), H', ⟨by have := HJ4.out; have := HJ11.out; first | omega | exact Nat.le_refl _⟩, ⟨by (with_reducible repeat (first | apply Kd.R_alloc | apply Kd.R_drewN | apply Kd.R_drew)); exact HO303.out⟩, ⟨by repeat (first | (with_reducible first | exact HB.out | apply below_alloc | apply pw_below_drewN | apply below_drew1) | exact HB.out)⟩⟩
                case rest =>
                  clear HC29
                  try clear c1
                  try clear p1
                  try clear q1
                  try clear hx1
                  try clear qi1
                  try clear c2
                  try clear p2
                  try clear q2
                  try clear hx2
                  try clear qi2
                  try clear c3
                  try clear c4
                  try clear c7
                  try clear c7b0
                  try clear c7b1
                  try clear c8
                  try clear c8b0
                  try clear c8b1
                  try clear c9
                  try clear c9b0
                  try clear c9b1
                  try clear c10
                  try clear c10b0
                  try clear c10b1
                  try clear c11
                  try clear c13
                  try clear c13b0
                  try clear c13b1
                  try clear c14
                  try clear c14b0
                  try clear c14b1
                  try clear p15
                  try clear q15
                  try clear hx15
                  try clear qi15
                  try clear c16
                  try clear c16b0
                  try clear c16b1
                  try clear p17
                  try clear q17
                  try clear hx17
                  try clear qi17
                  try clear c18
                  try clear c18b0
                  try clear c18b1
                  try clear p19
                  try clear q19
                  try clear hx19
                  try clear qi19
                  try clear c20
                  try clear c20b0
                  try clear p21
                  try clear q21
                  try clear hx21
                  try clear qi21
                  try clear c22
                  try clear c22b0
                  try clear p23
                  try clear q23
                  try clear hx23
                  try clear qi23
                  try clear p24
                  try clear q24
                  try clear hx24
                  try clear qi24
                  try clear c25
                  try clear c27
                  try clear c27b0
                  try clear c27b1
                  try clear c27b2
                  try clear c32
                  try clear c33
                  try clear c33b0
                  try clear c33b1
                  try clear p1
                  try clear p15
                  try clear p17
                  try clear p19
                  try clear p2
                  try clear p21
                  try clear p23
                  try clear p24
                  try clear q1
                  try clear q15
                  try clear q17
                  try clear q19
                  try clear q2
                  try clear q21
                  try clear q23
                  try clear q24
                  obtain ⟨kq, x92_28, rfl, HA, HJ28, HO_8, HB⟩ := hcut
                  cases kq with
                  | zero => exact absurd HA.out (by simp [decklelaw12_NumberBack_t.j2])
                  | succ kj28 =>
                    have H := HA.out
                    clear HA
                    simp only [decklelaw12_NumberBack_t.j2] at H
                    by_cases c35 : x92_28 = true
                    · subst c35
                      rw [if_pos rfl] at H
                      exact absurd (Option.some.inj H) (by rw [hr]; decide)
                    · replace c35 := Bool.eq_false_iff.mpr c35
                      subst c35
                      rw [if_neg (show ¬ (false = true) by decide)] at H
                      have H' := Aside0.mk H
                      clear H
                      go_wp2
                      go_loopg [11] kj28 (fun kq v11 w' => ∃ (x11_4 : Int), v11 = .int .i64 x11_4 ∧ Aside0 (decklelaw12_NumberBack_t.l0 kq l0 l1 a2 t297 t299 x11_4 = some r) ∧ Aside0 (kq ≤ kj28) ∧ Aside0 (Kd.R k28 28 w' w.heap.size (fun _ => True) v302 t299) ∧ Aside0 (Below w.heap.size w w'))
                      case atStart => exact ⟨(0), (by first | rfl | (simp; done) | (simp [*]; done)), H', ⟨Nat.le_refl _⟩, ⟨by (with_reducible repeat (first | apply Kd.R_alloc | apply Kd.R_drewN | apply Kd.R_drew)); exact HO_8.out⟩, ⟨by repeat (first | (with_reducible first | exact HB.out | apply below_alloc | apply pw_below_drewN | apply below_drew1) | exact HB.out)⟩⟩
                      case round =>
                        clear H'
                        try clear c1
                        try clear p1
                        try clear q1
                        try clear hx1
                        try clear qi1
                        try clear c2
                        try clear p2
                        try clear q2
                        try clear hx2
                        try clear qi2
                        try clear c3
                        try clear c4
                        try clear c7
                        try clear c7b0
                        try clear c7b1
                        try clear c8
                        try clear c8b0
                        try clear c8b1
                        try clear c9
                        try clear c9b0
                        try clear c9b1
                        try clear c10
                        try clear c10b0
                        try clear c10b1
                        try clear c11
                        try clear c13
                        try clear c13b0
                        try clear c13b1
                        try clear c14
                        try clear c14b0
                        try clear c14b1
                        try clear p15
                        try clear q15
                        try clear hx15
                        try clear qi15
                        try clear c16
                        try clear c16b0
                        try clear c16b1
                        try clear p17
                        try clear q17
                        try clear hx17
                        try clear qi17
                        try clear c18
                        try clear c18b0
                        try clear c18b1
                        try clear p19
                        try clear q19
                        try clear hx19
                        try clear qi19
                        try clear c20
                        try clear c20b0
                        try clear p21
                        try clear q21
                        try clear hx21
                        try clear qi21
                        try clear c22
                        try clear c22b0
                        try clear p23
                        try clear q23
                        try clear hx23
                        try clear qi23
                        try clear p24
                        try clear q24
                        try clear hx24
                        try clear qi24
                        try clear c25
                        try clear c27
                        try clear c27b0
                        try clear c27b1
                        try clear c27b2
                        try clear c32
                        try clear c33
                        try clear c33b0
                        try clear c33b1
                        try clear c35
                        try clear p1
                        try clear p15
                        try clear p17
                        try clear p19
                        try clear p2
                        try clear p21
                        try clear p23
                        try clear p24
                        try clear q1
                        try clear q15
                        try clear q17
                        try clear q19
                        try clear q2
                        try clear q21
                        try clear q23
                        try clear q24
                        obtain ⟨x11_4, rfl, HA, HK4, HO_8, HB⟩ := hrel
                        cases gk with
                        | zero => exact absurd HA.out (by simp [decklelaw12_NumberBack_t.l0])
                        | succ k4 =>
                          have H := HA.out
                          clear HA
                          simp only [decklelaw12_NumberBack_t.l0] at H
                          by_cases c36 : x11_4 < (l0.length : Int)
                          · rw [if_pos c36] at H
                            have c36b0 : decide (x11_4 < (l0.length : Int)) = true := decide_eq_true c36
                            clear c36
                            by_cases c37 : 0 ≤ x11_4
                            · rw [if_pos c37] at H
                              have c37b0 : decide (0 ≤ x11_4) = true := decide_eq_true c37
                              clear c37
                              by_cases c38 : x11_4 < (t299.length : Int)
                              · rw [if_pos c38] at H
                                have c38b0 : decide (x11_4 < (t299.length : Int)) = true := decide_eq_true c38
                                clear c38
                                replace H := Option.bind_eq_some_iff.mp H
                                obtain ⟨⟨t306, t307⟩, A390, H⟩ := H
                                try dsimp only at H
                                have A39 := Aside0.mk A390; clear A390
                                by_cases c40 : (!(((rd_T28 t299 x11_4).f0) == t306) || (!(((rd_T28 t299 x11_4).f1) == t307))) = true
                                · rw [if_pos c40] at H
                                  have c40b0 : (!(((rd_T28 t299 x11_4).f0) == t306) || (!(((rd_T28 t299 x11_4).f1) == t307))) = true := c40
                                  clear c40
                                  exact absurd (Option.some.inj H) (by rw [hr]; decide)
                                · rw [if_neg c40] at H
                                  have c40b0 : (!(((rd_T28 t299 x11_4).f0) == t306) || (!(((rd_T28 t299 x11_4).f1) == t307))) = false := by simpa using c40
                                  clear c40
                                  have H' := Aside0.mk H
                                  clear H
                                  try go_wp2
                                  have n0_ := Aside0.mk (Kd.R_drew HO_8.out)
                                  have n1_ := Aside0.mk (below_drew1 HB.out)
                                  clear HO_8
                                  clear HB
                                  have HO_8 := n0_
                                  have HB := n1_
                                  clear n0_ n1_
                                  obtain ⟨Ao42, co42, eo42⟩ := Kd.R_slice HO_8.out
                                  (first | subst eo42 | (injection eo42 with f1_ f2_ f3_; have f4_ := f1_.symm; have f5_ := f3_.symm; clear f1_ f2_ f3_; subst f4_; subst f5_))
                                  have p304 : 0 ≤ (x11_4 : Int) := of_decide_eq_true (by first | (with_reducible assumption) | assumption)
                                  have q304 : x11_4 < (t299.length : Int) := of_decide_eq_true (by first | (with_reducible assumption) | assumption)
                                  obtain ⟨ad304, e304, hx304_0, hx304_1⟩ := at_T28 (Kd.R_reads' HO_8.out).2.2 x11_4 p304 q304
                                  cases e304
                                  replace p304 := eq_true p304
                                  replace q304 := eq_true q304
                                  have p305 : 0 ≤ (x11_4 : Int) := of_decide_eq_true (by first | (with_reducible assumption) | assumption)
                                  have q305 : x11_4 < (l0.length : Int) := of_decide_eq_true (by first | (with_reducible assumption) | assumption)
                                  obtain ⟨ad305, e305, hx305_0⟩ := Kd.at_int HR0.out x11_4 p305 q305
                                  have hw305_0 := hx305_0
                                  cases e305
                                  replace hx305_0 := (HB.out.cell (World.block_lt_of_cell? w _ hx305_0)).trans hx305_0
                                  replace p305 := eq_true p305
                                  replace q305 := eq_true q305
                                  refine start_ (n := 10) (S := fun w' => w'.cell? (ad304.add ((x11_4).toNat * 2)) = some (.int .i64 ((rd_T28 t299 x11_4).f0)) ∧ w'.cell? ⟨(ad304.add ((x11_4).toNat * 2)).block, (ad304.add ((x11_4).toNat * 2)).off + 1, none⟩ = some (.int .i64 ((rd_T28 t299 x11_4).f1)) ∧ w'.cell? (ad305.add (x11_4).toNat) = some (.int .i64 (rd l0 x11_4))) (ds := []) #[false, false, false, false, false, false, false, false, false, false] (by kernel_rfl) rfl rfl ⟨hx304_0, hx304_1, ((HB.out.cell (World.block_lt_of_cell? w _ hw305_0)).trans hw305_0)⟩ (fun hHeld => ?_); refine with_tabW decklelaw12_NumberBack_t.tab12 decklelaw12_NumberBack_t.bits12 (fun HT_ HW_ => ?_)
                                  generalize wr.drew = w41 at HO_8 HB hx304_0 hx304_1 hx305_0 hHeld ⊢
                                  refine pure_ (i := 0) (N := some 99) (v := ?_) (a' := ?_) #[true, false, false, false, false, false, false, false, false, false] rfl rfl (any_of HT_.out (by kernel_rfl)) (fun _ _ _ h => h) (Or.inl ⟨by rfl, ?_⟩) ?_ ?_
                                  rotate_left
                                  · intro w'
                                    go_simp
                                    with_reducible rfl
                                  rotate_left
                                  · simp only [Act.put, List.setIfInBounds_toArray, List.set_cons_zero, List.set_cons_succ, i64_w, i32_w]
                                    rfl
                                  refine pure_ (i := 1) (N := some 100) (v := ?_) (a' := ?_) #[true, true, false, false, false, false, false, false, false, false] rfl rfl (any_of HT_.out (by kernel_rfl)) (fun _ _ _ h => h) (Or.inl ⟨by rfl, ?_⟩) ?_ ?_
                                  rotate_left
                                  · intro w'
                                    go_simp
                                    with_reducible rfl
                                  rotate_left
                                  · simp only [Act.put, List.setIfInBounds_toArray, List.set_cons_zero, List.set_cons_succ, i64_w, i32_w]
                                    rfl
                                  refine pure_ (i := 2) (N := some 101) (v := ?_) (a' := ?_) #[true, true, true, false, false, false, false, false, false, false] rfl rfl (any_of HT_.out (by kernel_rfl)) (fun _ _ _ h => h) (Or.inl ⟨by rfl, ?_⟩) ?_ ?_
                                  rotate_left
                                  · intro w'
                                    go_simp
                                    with_reducible rfl
                                  rotate_left
                                  · simp only [Act.put, List.setIfInBounds_toArray, List.set_cons_zero, List.set_cons_succ, i64_w, i32_w]
                                    rfl
                                  refine pure_ (i := 4) (N := some 103) (v := ?_) (a' := ?_) #[true, true, true, false, true, false, false, false, false, false] rfl rfl (any_of HT_.out (by kernel_rfl)) (fun _ _ _ h => h) (Or.inl ⟨by rfl, ?_⟩) ?_ ?_
                                  rotate_left
                                  · intro w'
                                    go_simp
                                    with_reducible rfl
                                  rotate_left
                                  · simp only [Act.put, List.setIfInBounds_toArray, List.set_cons_zero, List.set_cons_succ, i64_w, i32_w]
                                    rfl
                                  refine pure_ (i := 5) (N := some 104) (v := ?_) (a' := ?_) #[true, true, true, false, true, true, false, false, false, false] rfl rfl (any_of HT_.out (by kernel_rfl)) (fun _ _ _ h => h) (Or.inl ⟨by rfl, ?_⟩) ?_ ?_
                                  rotate_left
                                  · intro w'
                                    go_simp
                                    with_reducible rfl
                                  rotate_left
                                  · simp only [Act.put, List.setIfInBounds_toArray, List.set_cons_zero, List.set_cons_succ, i64_w, i32_w]
                                    rfl
                                  refine pure_ (i := 6) (N := some 105) (v := ?_) (a' := ?_) #[true, true, true, false, true, true, true, false, false, false] rfl rfl (any_of HT_.out (by kernel_rfl)) (fun _ _ _ h => h) (Or.inl ⟨by rfl, ?_⟩) ?_ ?_
                                  rotate_left
                                  · intro w'
                                    go_simp
                                    with_reducible rfl
                                  rotate_left
                                  · simp only [Act.put, List.setIfInBounds_toArray, List.set_cons_zero, List.set_cons_succ, i64_w, i32_w]
                                    rfl
                                  refine take_ (i := 3) (N := some 102) (v := ?_) (a' := ?_) #[true, true, true, true, true, true, true, false, false, false] rfl rfl (take_ofW HT_.out HW_.out (by kernel_rfl)) (fun _ _ _ h => h) (Or.inl ⟨by rfl, ?_⟩) hHeld ?_ ?_
                                  rotate_left
                                  · rintro w' ⟨s0, s1, s2⟩
                                    go_simp
                                    with_reducible rfl
                                  rotate_left
                                  · simp only [Act.put, List.setIfInBounds_toArray, List.set_cons_zero, List.set_cons_succ, i64_w, i32_w]
                                    rfl
                                  refine take_ (i := 7) (N := some 106) (v := ?_) (a' := ?_) #[true, true, true, true, true, true, true, true, false, false] rfl rfl (take_ofW HT_.out HW_.out (by kernel_rfl)) (fun _ _ _ h => h) (Or.inl ⟨by rfl, ?_⟩) hHeld ?_ ?_
                                  rotate_left
                                  · rintro w' ⟨s0, s1, s2⟩
                                    go_simp
                                    with_reducible rfl
                                  rotate_left
                                  · simp only [Act.put, List.setIfInBounds_toArray, List.set_cons_zero, List.set_cons_succ, i64_w, i32_w]
                                    rfl
                                  refine one_ (i := 8) (N := some 107) #[true, true, true, true, true, true, true, true, true, false] rfl rfl (one_of HT_.out (by kernel_rfl)) (by decide) (fun K hK => ?_)
                                  refine goes_ Tryd.func15 (by kernel_rfl) rfl #[.int .i64 (rd l0 x11_4)] (by rfl) rfl rfl (by (try simp only [List.map_toArray, List.map_cons, List.map_nil]); first | done | rfl | (simp only [List.length_drop, List.length_take]; rfl)) ?_
                                  with_reducible refine (decimal_Of.calls k4 (rd l0 x11_4) t306 t307 _ ?side1 A39.out).mono ?_
                                  (case side1 => first | exact hT | ((repeat (with_reducible first | exact hT | apply Tabs.drewN | apply Tabs.drew)); done) | exact Tabs.below hT (by repeat (first | (with_reducible first | exact HB.out | apply below_alloc | apply pw_below_drewN | apply below_drew1) | exact HB.out)))
                                  rintro e w43 ⟨rfl, hb⟩
                                  have HS0_ := (hb.cell (World.block_lt_of_cell? _ _ (hHeld.1))).trans (hHeld.1)
                                  have HS1_ := (hb.cell (World.block_lt_of_cell? _ _ (hHeld.2.1))).trans (hHeld.2.1)
                                  refine ⟨_, rfl, ?_⟩
                                  have n0_ := Aside0.mk (Kd.R_below (by (with_reducible repeat (first | apply Kd.R_alloc | apply Kd.R_drewN | apply Kd.R_drew)); exact HO_8.out) hb)
                                  have n1_ := Aside0.mk (below_step (by repeat (first | (with_reducible first | exact HB.out | apply below_alloc | apply pw_below_drewN | apply below_drew1) | exact HB.out)) hb)
                                  clear HO_8
                                  clear HB
                                  have HO_8 := n0_
                                  have HB := n1_
                                  clear n0_ n1_
                                  (try clear hb)
                                  (try clear hb2)
                                  (try clear hk)
                                  (try clear hi)
                                  refine hK.out _ _ ⟨HS0_, HS1_, ((HB.out.cell (World.block_lt_of_cell? w _ hw305_0)).trans hw305_0)⟩ (fun hHeld => ?_)
                                  clear hK K
                                  refine norm_ (a' := ?_) ?_ ?_
                                  rotate_left
                                  · show Act.put _ (some 107) _ = _
                                    simp only [Act.put, List.setIfInBounds_toArray, List.set_cons_zero, List.set_cons_succ, i64_w, i32_w]
                                    rfl
                                  refine pure_ (i := 9) (N := some 108) (v := ?_) (a' := ?_) #[true, true, true, true, true, true, true, true, true, true] rfl rfl (any_of HT_.out (by kernel_rfl)) (fun _ _ _ h => h) (Or.inl ⟨by rfl, ?_⟩) ?_ ?_
                                  rotate_left
                                  · intro w'
                                    go_simp
                                    with_reducible rfl
                                  rotate_left
                                  · simp only [Act.put, List.setIfInBounds_toArray, List.set_cons_zero, List.set_cons_succ, i64_w, i32_w]
                                    rfl
                                  refine done_ (done_of HT_.out (by kernel_rfl)) ?_
                                  try go_wp2
                                  go_roundg k4
                                  case measure => have := HJ4.out; have := HJ11.out; have := HJ28.out; have := HK4.out; omega
                                  case rel => exact ⟨(wrap64 (x11_4 + 1)), (by first | rfl | (simp; done) | (simp [*]; done)), H', ⟨by have := HJ4.out; have := HJ11.out; have := HJ28.out; have := HK4.out; omega⟩, ⟨by (with_reducible repeat (first | apply Kd.R_alloc | apply Kd.R_drewN | apply Kd.R_drew)); exact HO_8.out⟩, ⟨by repeat (first | (with_reducible first | exact HB.out | apply below_alloc | apply pw_below_drewN | apply below_drew1) | exact HB.out)⟩⟩
                              · rw [if_neg c38] at H
                                exact absurd H (by simp)
                            · rw [if_neg c37] at H
                              exact absurd H (by simp)
                          · rw [if_neg c36] at H
                            have c36b0 : decide (x11_4 < (l0.length : Int)) = false := decide_eq_false c36
                            clear c36
                            have H' := Aside0.mk H
                            clear H
                            go_wp2
                            go_loopg [12] k4 (fun kq v12 w' => ∃ (x12_5 : Int), v12 = .int .i64 x12_5 ∧ Aside0 (decklelaw12_NumberBack_t.l1 kq l1 a2 t297 x12_5 = some r) ∧ Aside0 (kq ≤ k4) ∧ Aside0 (Below w.heap.size w w'))
                            case atStart => exact ⟨(0), (by first | rfl | (simp; done) | (simp [*]; done)), H', ⟨Nat.le_refl _⟩, ⟨by repeat (first | (with_reducible first | exact HB.out | apply below_alloc | apply pw_below_drewN | apply below_drew1) | exact HB.out)⟩⟩
                            case round =>
                              clear H'
                              try clear c1
                              try clear p1
                              try clear q1
                              try clear hx1
                              try clear qi1
                              try clear c2
                              try clear p2
                              try clear q2
                              try clear hx2
                              try clear qi2
                              try clear c3
                              try clear p3
                              try clear q3
                              try clear hx3
                              try clear c4
                              try clear p6
                              try clear c7
                              try clear c7b0
                              try clear c7b1
                              try clear c8
                              try clear c8b0
                              try clear c8b1
                              try clear c9
                              try clear c9b0
                              try clear c9b1
                              try clear c10
                              try clear c10b0
                              try clear c10b1
                              try clear c11
                              try clear c13
                              try clear c13b0
                              try clear c13b1
                              try clear c14
                              try clear c14b0
                              try clear c14b1
                              try clear c15
                              try clear p15
                              try clear q15
                              try clear hx15
                              try clear qi15
                              try clear c16
                              try clear c16b0
                              try clear c16b1
                              try clear p17
                              try clear q17
                              try clear hx17
                              try clear qi17
                              try clear c18
                              try clear c18b0
                              try clear c18b1
                              try clear p19
                              try clear q19
                              try clear hx19
                              try clear qi19
                              try clear c20
                              try clear c20b0
                              try clear p21
                              try clear q21
                              try clear hx21
                              try clear qi21
                              try clear c22
                              try clear c22b0
                              try clear p23
                              try clear q23
                              try clear hx23
                              try clear qi23
                              try clear p24
                              try clear q24
                              try clear hx24
                              try clear qi24
                              try clear c25
                              try clear c27
                              try clear c27b0
                              try clear c27b1
                              try clear c27b2
                              try clear p30
                              try clear q30
                              try clear hx30
                              try clear c32
                              try clear c33
                              try clear c33b0
                              try clear c33b1
                              try clear c35
                              try clear c36
                              try clear c36b0
                              try clear c37
                              try clear c37b0
                              try clear c38
                              try clear c38b0
                              try clear c40
                              try clear c40b0
                              try clear hx304_0
                              try clear hx304_1
                              try clear hx305_0
                              try clear p1
                              try clear p15
                              try clear p17
                              try clear p19
                              try clear p2
                              try clear p21
                              try clear p23
                              try clear p24
                              try clear p304
                              try clear p305
                              try clear q1
                              try clear q15
                              try clear q17
                              try clear q19
                              try clear q2
                              try clear q21
                              try clear q23
                              try clear q24
                              try clear q304
                              try clear q305
                              obtain ⟨x12_5, rfl, HA, HK5, HB⟩ := hrel
                              cases gk with
                              | zero => exact absurd HA.out (by simp [decklelaw12_NumberBack_t.l1])
                              | succ k5 =>
                                have H := HA.out
                                clear HA
                                simp only [decklelaw12_NumberBack_t.l1] at H
                                by_cases c44 : x12_5 < (l1.length : Int)
                                · rw [if_pos c44] at H
                                  have c44b0 : decide (x12_5 < (l1.length : Int)) = true := decide_eq_true c44
                                  clear c44
                                  by_cases c45 : 0 ≤ x12_5
                                  · rw [if_pos c45] at H
                                    have c45b0 : decide (0 ≤ x12_5) = true := decide_eq_true c45
                                    clear c45
                                    replace H := Option.bind_eq_some_iff.mp H
                                    obtain ⟨t309, A460, H⟩ := H
                                    have A46 := Aside0.mk A460; clear A460
                                    by_cases c47 : t309 = true
                                    · subst c47
                                      rw [if_pos rfl] at H
                                      have H' := Aside0.mk H
                                      clear H
                                      have p308 : 0 ≤ (x12_5 : Int) := of_decide_eq_true (by first | (with_reducible assumption) | assumption)
                                      have q308 : x12_5 < (l1.length : Int) := of_decide_eq_true (by first | (with_reducible assumption) | assumption)
                                      obtain ⟨ad308, e308, hx308_0, hx308_1⟩ := at_T28 HR1.out x12_5 p308 q308
                                      cases e308
                                      replace hx308_0 := (HB.out.cell (World.block_lt_of_cell? w _ hx308_0)).trans hx308_0
                                      replace hx308_1 := (HB.out.cell (World.block_lt_of_cell? w _ hx308_1)).trans hx308_1
                                      replace p308 := eq_true p308
                                      replace q308 := eq_true q308
                                      go_wp2_with (first | ((with_reducible refine gate_callee (f := 16) rfl ?_); refine goesL_ (some 119) rfl rfl Tryd.func16 (by kernel_rfl) rfl #[.agg #[.int .i64 ((rd_T28 l1 x12_5).f0), .int .i64 ((rd_T28 l1 x12_5).f1)]] rfl (by (try simp only [List.map_toArray, List.map_cons, List.map_nil]); first | done | rfl | (simp only [List.length_drop, List.length_take]; rfl)) ?_; (with_reducible refine (decimal_Right.calls k5 ((rd_T28 l1 x12_5).f0) ((rd_T28 l1 x12_5).f1) true _ ?side1 A46.out).mono ?_); (case side1 => first | exact hT | ((repeat (with_reducible first | exact hT | apply Tabs.drewN | apply Tabs.drew)); done) | exact Tabs.below hT (by repeat (first | (with_reducible first | exact HB.out | apply below_alloc | apply pw_below_drewN | apply below_drew1) | exact HB.out))); rintro e w48 ⟨rfl, hb⟩; refine ⟨_, rfl, ?_⟩; have n0_ := Aside0.mk (below_step (by repeat (first | (with_reducible first | exact HB.out | apply below_alloc | apply pw_below_drewN | apply below_drew1) | exact HB.out)) hb); clear HB; have HB := n0_; clear n0_; (try clear hb); (try clear hb2); (try clear hk); (try clear hi)))
                                      go_roundg k5
                                      case measure => have := HJ4.out; have := HJ11.out; have := HJ28.out; have := HK4.out; have := HK5.out; omega
                                      case rel => exact ⟨(wrap64 (x12_5 + 1)), (by first | rfl | (simp; done) | (simp [*]; done)), H', ⟨by have := HJ4.out; have := HJ11.out; have := HJ28.out; have := HK4.out; have := HK5.out; omega⟩, ⟨by repeat (first | (with_reducible first | exact HB.out | apply below_alloc | apply pw_below_drewN | apply below_drew1) | exact HB.out)⟩⟩
                                    · replace c47 := Bool.eq_false_iff.mpr c47
                                      subst c47
                                      rw [if_neg (show ¬ (false = true) by decide)] at H
                                      by_cases c49 : t297 = true
                                      · subst c49
                                        rw [if_pos rfl] at H
                                        replace H := Option.bind_eq_some_iff.mp H
                                        obtain ⟨t310, A500, H⟩ := H
                                        have A50 := Aside0.mk A500; clear A500
                                        clear hr
                                        obtain rfl := Option.some.inj H
                                        have p308 : 0 ≤ (x12_5 : Int) := of_decide_eq_true (by first | (with_reducible assumption) | assumption)
                                        have q308 : x12_5 < (l1.length : Int) := of_decide_eq_true (by first | (with_reducible assumption) | assumption)
                                        obtain ⟨ad308, e308, hx308_0, hx308_1⟩ := at_T28 HR1.out x12_5 p308 q308
                                        cases e308
                                        replace hx308_0 := (HB.out.cell (World.block_lt_of_cell? w _ hx308_0)).trans hx308_0
                                        replace hx308_1 := (HB.out.cell (World.block_lt_of_cell? w _ hx308_1)).trans hx308_1
                                        replace p308 := eq_true p308
                                        replace q308 := eq_true q308
                                        go_wp2_with (first | ((with_reducible refine gate_callee (f := 16) rfl ?_); refine goesL_ (some 119) rfl rfl Tryd.func16 (by kernel_rfl) rfl #[.agg #[.int .i64 ((rd_T28 l1 x12_5).f0), .int .i64 ((rd_T28 l1 x12_5).f1)]] rfl (by (try simp only [List.map_toArray, List.map_cons, List.map_nil]); first | done | rfl | (simp only [List.length_drop, List.length_take]; rfl)) ?_; (with_reducible refine (decimal_Right.calls k5 ((rd_T28 l1 x12_5).f0) ((rd_T28 l1 x12_5).f1) false _ ?side1 A46.out).mono ?_); (case side1 => first | exact hT | ((repeat (with_reducible first | exact hT | apply Tabs.drewN | apply Tabs.drew)); done) | exact Tabs.below hT (by repeat (first | (with_reducible first | exact HB.out | apply below_alloc | apply pw_below_drewN | apply below_drew1) | exact HB.out))); rintro e w51 ⟨rfl, hb⟩; refine ⟨_, rfl, ?_⟩; have n0_ := Aside0.mk (below_step (by repeat (first | (with_reducible first | exact HB.out | apply below_alloc | apply pw_below_drewN | apply below_drew1) | exact HB.out)) hb); clear HB; have HB := n0_; clear n0_; (try clear hb); (try clear hb2); (try clear hk); (try clear hi)) | (go_at_call 13; (with_reducible refine (number_Decs.calls k5 _ _ l1 t310 _ ?side1 ?side2 ?side3 A50.out).mono ?_); (case side1 => first | exact hT | ((repeat (with_reducible first | exact hT | apply Tabs.drewN | apply Tabs.drew)); done) | exact Tabs.below hT (by repeat (first | (with_reducible first | exact HB.out | apply below_alloc | apply pw_below_drewN | apply below_drew1) | exact HB.out))); (case side2 => repeat (first | exact (Kd.C_below HR1.out HB.out) | (with_reducible refine Kd.C_alloc ?_ _) | (with_reducible refine Kd.C_drewN ?_ _) | (with_reducible refine Kd.C_drew ?_))); (case side3 => exact HC1.out); rintro e w52 ⟨rfl, hb⟩; have n0_ := Aside0.mk (below_step (by repeat (first | (with_reducible first | exact HB.out | apply below_alloc | apply pw_below_drewN | apply below_drew1) | exact HB.out)) hb); clear HB; have HB := n0_; clear n0_; (try clear hb); (try clear hb2); (try clear hk); (try clear hi)))
                                        go_ret
                                        exact ⟨by first | rfl | (simp [errW_none, errW_some] <;> rfl) | (simp [*, errW_none, errW_some] <;> rfl) | (simp [errW_none, errW_some, bne_nil_, beq_nil_]; done) | (simp [*, errW_none, errW_some, bne_nil_, beq_nil_]; done), by repeat (first | (with_reducible first | exact HB.out | apply below_alloc | apply pw_below_drewN | apply below_drew1) | exact HB.out)⟩
                                      · replace c49 := Bool.eq_false_iff.mpr c49
                                        subst c49
                                        rw [if_neg (show ¬ (false = true) by decide)] at H
                                        exact absurd (Option.some.inj H) (by rw [hr]; decide)
                                  · rw [if_neg c45] at H
                                    exact absurd H (by simp)
                                · rw [if_neg c44] at H
                                  have c44b0 : decide (x12_5 < (l1.length : Int)) = false := decide_eq_false c44
                                  clear c44
                                  replace H := Option.bind_eq_some_iff.mp H
                                  obtain ⟨t311, A530, H⟩ := H
                                  have A53 := Aside0.mk A530; clear A530
                                  by_cases c54 : t311.size + a2.size ≤ 9223372036854775807
                                  · rw [if_pos c54] at H
                                    have c54b0 := eq_true c54
                                    have c54b1 : decide (t311.size + a2.size ≤ 9223372036854775807) = true := decide_eq_true c54
                                    try have c54b2 : (9223372036854775807 < t311.size + a2.size) = False := eq_false (Nat.not_lt.2 c54)
                                    replace H := Option.bind_eq_some_iff.mp H
                                    obtain ⟨⟨t312, t313, t314⟩, A550, H⟩ := H
                                    try dsimp only at H
                                    have A55 := Aside0.mk A550; clear A550
                                    have HC56 := Aside0.mk H
                                    clear H
                                    go_upto_region 20 with (first | ((with_reducible refine gate_callee (f := 13) rfl ?_); refine goesL_ (some 129) rfl rfl Tryd.func13 (by kernel_rfl) rfl #[.slice A1 l1.length c1] rfl (by (try simp only [List.map_toArray, List.map_cons, List.map_nil]); first | done | rfl | (simp only [List.length_drop, List.length_take]; rfl)) ?_; (with_reducible refine (number_Decs.calls k5 _ _ l1 t311 _ ?side1 ?side2 ?side3 A53.out).mono ?_); (case side1 => first | exact hT | ((repeat (with_reducible first | exact hT | apply Tabs.drewN | apply Tabs.drew)); done) | exact Tabs.below hT (by repeat (first | (with_reducible first | exact HB.out | apply below_alloc | apply pw_below_drewN | apply below_drew1) | exact HB.out))); (case side2 => repeat (first | exact (Kd.C_below HR1.out HB.out) | (with_reducible refine Kd.C_alloc ?_ _) | (with_reducible refine Kd.C_drewN ?_ _) | (with_reducible refine Kd.C_drew ?_))); (case side3 => exact HC1.out); rintro e w57 ⟨rfl, hb⟩; refine ⟨_, rfl, ?_⟩; have n0_ := Aside0.mk (below_step (by repeat (first | (with_reducible first | exact HB.out | apply below_alloc | apply pw_below_drewN | apply below_drew1) | exact HB.out)) hb); clear HB; have HB := n0_; clear n0_; (try clear hb); (try clear hb2); (try clear hk); (try clear hi)) | ((with_reducible refine gate_callee (f := 9) rfl ?_); refine goesL_ (some 132) rfl rfl Tryd.func9 (by kernel_rfl) rfl #[.string (t311 ++ a2)] rfl (by (try simp only [List.map_toArray, List.map_cons, List.map_nil]); first | done | rfl | (simp only [List.length_drop, List.length_take]; rfl)) ?_; (with_reducible refine (number_Read.calls k5 (t311 ++ a2) t312 t313 t314 _ ?side1 A55.out).mono ?_); (case side1 => first | exact hT | ((repeat (with_reducible first | exact hT | apply Tabs.drewN | apply Tabs.drew)); done) | exact Tabs.below hT (by repeat (first | (with_reducible first | exact HB.out | apply below_alloc | apply pw_below_drewN | apply below_drew1) | exact HB.out))); rintro e w58 ⟨v315, rfl, ho0, hb⟩; refine ⟨_, rfl, ?_⟩; have n0_ := Aside0.mk (Kd.R_lower ho0 (below_size (by repeat (first | (with_reducible first | exact HB.out | apply below_alloc | apply pw_below_drewN | apply below_drew1) | exact HB.out)))); have n1_ := Aside0.mk (below_step (by repeat (first | (with_reducible first | exact HB.out | apply below_alloc | apply pw_below_drewN | apply below_drew1) | exact HB.out)) hb); clear HB; have HO316 := n0_; have HB := n1_; clear n0_ n1_; (try clear hb); (try clear hb2); (try clear hk); (try clear hi); (try clear ho0)))
                                    (try simp only [Act.put, List.setIfInBounds_toArray, List.set_cons_zero, List.set_cons_succ])
                                    go_cut [149] (fun v149 wc => ∃ (kq : Nat) (x149_55 : Bool), v149 = .bool x149_55 ∧ Aside0 (decklelaw12_NumberBack_t.j5 kq l1 t297 t312 x149_55 = some r) ∧ Aside0 (kq ≤ k5) ∧ Aside0 (Kd.R k28 28 wc w.heap.size (fun _ => True) v315 t312) ∧ Aside0 (Below w.heap.size w wc))
                                    case first =>
                                      have H := HC56.out
                                      clear HC56
                                      by_cases c59 : t314 = true
                                      · subst c59
                                        rw [if_pos rfl] at H
                                        by_cases c60 : t313.toList = a2.toList
                                        · rw [if_pos c60] at H
                                          have c60b0 : (t313.toList == a2.toList) = true := beq_iff_eq.mpr c60
                                          have c60b1 : (t313.toList != a2.toList) = false := bne_eq_false_iff_eq.mpr c60
                                          clear c60
                                          (first | rw [c60b0] | (simp only [i64_w, i32_w]; rw [c60b0]) | skip)
                                          have H' := Aside0.mk H
                                          clear H
                                          obtain ⟨Ao61, co61, eo61⟩ := Kd.R_slice HO316.out
                                          subst eo61
                                          go_wp2
                                          go_meet
                                          case rel => exact ⟨_, (((t312.length : Int) != (l1.length : Int))), (by first | rfl | (simp; done) | (simp [*]; done)), H', ⟨by have := HJ4.out; have := HJ11.out; have := HJ28.out; have := HK4.out; have := HK5.out; first | omega | exact Nat.le_refl _⟩, ⟨by (with_reducible repeat (first | apply Kd.R_alloc | apply Kd.R_drewN | apply Kd.R_drew)); exact HO316.out⟩, ⟨by repeat (first | (with_reducible first | exact HB.out | apply below_alloc | apply pw_below_drewN | apply below_drew1) | exact HB.out)⟩⟩
                                        · rw [if_neg c60] at H
                                          have c60b0 : (t313.toList == a2.toList) = false := beq_eq_false_iff_ne.mpr c60
                                          have c60b1 : (t313.toList != a2.toList) = true := bne_iff_ne.mpr c60
                                          (first | rw [c60b0] | (simp only [i64_w, i32_w]; rw [c60b0]) | skip)
                                          have H' := Aside0.mk H
                                          clear H
                                          go_wp2
                                          go_meet
                                          case rel => exact ⟨_, (true), (by first | rfl | (simp; done) | (simp [*]; done)), H', ⟨by have := HJ4.out; have := HJ11.out; have := HJ28.out; have := HK4.out; have := HK5.out; first | omega | exact Nat.le_refl _⟩, ⟨by (with_reducible repeat (first | apply Kd.R_alloc | apply Kd.R_drewN | apply Kd.R_drew)); exact HO316.out⟩, ⟨by repeat (first | (with_reducible first | exact HB.out | apply below_alloc | apply pw_below_drewN | apply below_drew1) | exact HB.out)⟩⟩
                                      · replace c59 := Bool.eq_false_iff.mpr c59
                                        subst c59
                                        rw [if_neg (show ¬ (false = true) by decide)] at H
                                        have H' := Aside0.mk H
                                        clear H
                                        go_wp2
                                        go_meet
                                        case rel => exact ⟨_, (true), (by first | rfl | (simp; done) | (simp [*]; done)), H', ⟨by have := HJ4.out; have := HJ11.out; have := HJ28.out; have := HK4.out; have := HK5.out; first | omega | exact Nat.le_refl _⟩, ⟨by (with_reducible repeat (first | apply Kd.R_alloc | apply Kd.R_drewN | apply Kd.R_drew)); exact HO316.out⟩, ⟨by repeat (first | (with_reducible first | exact HB.out | apply below_alloc | apply pw_below_drewN | apply below_drew1) | exact HB.out)⟩⟩
                                    case rest =>
                                      clear HC56
                                      try clear c1
                                      try clear p1
                                      try clear q1
                                      try clear hx1
                                      try clear qi1
                                      try clear c2
                                      try clear p2
                                      try clear q2
                                      try clear hx2
                                      try clear qi2
                                      try clear c3
                                      try clear p3
                                      try clear q3
                                      try clear hx3
                                      try clear c4
                                      try clear c5
                                      try clear c6
                                      try clear p6
                                      try clear c7
                                      try clear c7b0
                                      try clear c7b1
                                      try clear c8
                                      try clear c8b0
                                      try clear c8b1
                                      try clear c9
                                      try clear c9b0
                                      try clear c9b1
                                      try clear c10
                                      try clear c10b0
                                      try clear c10b1
                                      try clear c11
                                      try clear c13
                                      try clear c13b0
                                      try clear c13b1
                                      try clear c14
                                      try clear c14b0
                                      try clear c14b1
                                      try clear c15
                                      try clear p15
                                      try clear q15
                                      try clear hx15
                                      try clear qi15
                                      try clear c16
                                      try clear c16b0
                                      try clear c16b1
                                      try clear p17
                                      try clear q17
                                      try clear hx17
                                      try clear qi17
                                      try clear c18
                                      try clear c18b0
                                      try clear c18b1
                                      try clear p19
                                      try clear q19
                                      try clear hx19
                                      try clear qi19
                                      try clear c20
                                      try clear c20b0
                                      try clear p21
                                      try clear q21
                                      try clear hx21
                                      try clear qi21
                                      try clear c22
                                      try clear c22b0
                                      try clear p23
                                      try clear q23
                                      try clear hx23
                                      try clear qi23
                                      try clear p24
                                      try clear q24
                                      try clear hx24
                                      try clear qi24
                                      try clear c25
                                      try clear c27
                                      try clear c27b0
                                      try clear c27b1
                                      try clear c27b2
                                      try clear p30
                                      try clear q30
                                      try clear hx30
                                      try clear c32
                                      try clear c33
                                      try clear c33b0
                                      try clear c33b1
                                      try clear c35
                                      try clear c36
                                      try clear c36b0
                                      try clear c37
                                      try clear c37b0
                                      try clear c38
                                      try clear c38b0
                                      try clear c40
                                      try clear c40b0
                                      try clear c44
                                      try clear c44b0
                                      try clear c45
                                      try clear c45b0
                                      try clear c47
                                      try clear c49
                                      try clear c54
                                      try clear c54b0
                                      try clear c54b1
                                      try clear c54b2
                                      try clear c59
                                      try clear c60
                                      try clear c60b0
                                      try clear c60b1
                                      try clear hx304_0
                                      try clear hx304_1
                                      try clear hx305_0
                                      try clear hx308_0
                                      try clear hx308_1
                                      try clear p1
                                      try clear p15
                                      try clear p17
                                      try clear p19
                                      try clear p2
                                      try clear p21
                                      try clear p23
                                      try clear p24
                                      try clear p3
                                      try clear p30
                                      try clear p304
                                      try clear p305
                                      try clear p308
                                      try clear p6
                                      try clear q1
                                      try clear q15
                                      try clear q17
                                      try clear q19
                                      try clear q2
                                      try clear q21
                                      try clear q23
                                      try clear q24
                                      try clear q3
                                      try clear q30
                                      try clear q304
                                      try clear q305
                                      try clear q308
                                      obtain ⟨kq, x149_55, rfl, HA, HJ55, HO_13, HB⟩ := hcut
                                      cases kq with
                                      | zero => exact absurd HA.out (by simp [decklelaw12_NumberBack_t.j5])
                                      | succ kj55 =>
                                        have H := HA.out
                                        clear HA
                                        simp only [decklelaw12_NumberBack_t.j5] at H
                                        by_cases c62 : x149_55 = true
                                        · subst c62
                                          rw [if_pos rfl] at H
                                          exact absurd (Option.some.inj H) (by rw [hr]; decide)
                                        · replace c62 := Bool.eq_false_iff.mpr c62
                                          subst c62
                                          rw [if_neg (show ¬ (false = true) by decide)] at H
                                          have H' := Aside0.mk H
                                          clear H
                                          go_wp2
                                          go_loopg [16] kj55 (fun kq v16 w' => ∃ (x16_7 : Int), v16 = .int .i64 x16_7 ∧ Aside0 (decklelaw12_NumberBack_t.l2 kq l1 t297 t312 x16_7 = some r) ∧ Aside0 (kq ≤ kj55) ∧ Aside0 (Kd.R k28 28 w' w.heap.size (fun _ => True) v315 t312) ∧ Aside0 (Below w.heap.size w w'))
                                          case atStart => exact ⟨(0), (by first | rfl | (simp; done) | (simp [*]; done)), H', ⟨Nat.le_refl _⟩, ⟨by (with_reducible repeat (first | apply Kd.R_alloc | apply Kd.R_drewN | apply Kd.R_drew)); exact HO_13.out⟩, ⟨by repeat (first | (with_reducible first | exact HB.out | apply below_alloc | apply pw_below_drewN | apply below_drew1) | exact HB.out)⟩⟩
                                          case round =>
                                            clear H'
                                            try clear c1
                                            try clear p1
                                            try clear q1
                                            try clear hx1
                                            try clear qi1
                                            try clear c2
                                            try clear p2
                                            try clear q2
                                            try clear hx2
                                            try clear qi2
                                            try clear c3
                                            try clear p3
                                            try clear q3
                                            try clear hx3
                                            try clear c4
                                            try clear c5
                                            try clear c6
                                            try clear p6
                                            try clear c7
                                            try clear c7b0
                                            try clear c7b1
                                            try clear c8
                                            try clear c8b0
                                            try clear c8b1
                                            try clear c9
                                            try clear c9b0
                                            try clear c9b1
                                            try clear c10
                                            try clear c10b0
                                            try clear c10b1
                                            try clear c11
                                            try clear c13
                                            try clear c13b0
                                            try clear c13b1
                                            try clear c14
                                            try clear c14b0
                                            try clear c14b1
                                            try clear c15
                                            try clear p15
                                            try clear q15
                                            try clear hx15
                                            try clear qi15
                                            try clear c16
                                            try clear c16b0
                                            try clear c16b1
                                            try clear p17
                                            try clear q17
                                            try clear hx17
                                            try clear qi17
                                            try clear c18
                                            try clear c18b0
                                            try clear c18b1
                                            try clear p19
                                            try clear q19
                                            try clear hx19
                                            try clear qi19
                                            try clear c20
                                            try clear c20b0
                                            try clear p21
                                            try clear q21
                                            try clear hx21
                                            try clear qi21
                                            try clear c22
                                            try clear c22b0
                                            try clear p23
                                            try clear q23
                                            try clear hx23
                                            try clear qi23
                                            try clear p24
                                            try clear q24
                                            try clear hx24
                                            try clear qi24
                                            try clear c25
                                            try clear c27
                                            try clear c27b0
                                            try clear c27b1
                                            try clear c27b2
                                            try clear p30
                                            try clear q30
                                            try clear hx30
                                            try clear c32
                                            try clear c33
                                            try clear c33b0
                                            try clear c33b1
                                            try clear c35
                                            try clear c36
                                            try clear c36b0
                                            try clear c37
                                            try clear c37b0
                                            try clear c38
                                            try clear c38b0
                                            try clear c40
                                            try clear c40b0
                                            try clear c44
                                            try clear c44b0
                                            try clear c45
                                            try clear c45b0
                                            try clear c47
                                            try clear c49
                                            try clear c54
                                            try clear c54b0
                                            try clear c54b1
                                            try clear c54b2
                                            try clear c59
                                            try clear c60
                                            try clear c60b0
                                            try clear c60b1
                                            try clear c62
                                            try clear hx304_0
                                            try clear hx304_1
                                            try clear hx305_0
                                            try clear hx308_0
                                            try clear hx308_1
                                            try clear p1
                                            try clear p15
                                            try clear p17
                                            try clear p19
                                            try clear p2
                                            try clear p21
                                            try clear p23
                                            try clear p24
                                            try clear p3
                                            try clear p30
                                            try clear p304
                                            try clear p305
                                            try clear p308
                                            try clear p6
                                            try clear q1
                                            try clear q15
                                            try clear q17
                                            try clear q19
                                            try clear q2
                                            try clear q21
                                            try clear q23
                                            try clear q24
                                            try clear q3
                                            try clear q30
                                            try clear q304
                                            try clear q305
                                            try clear q308
                                            obtain ⟨x16_7, rfl, HA, HK7, HO_13, HB⟩ := hrel
                                            cases gk with
                                            | zero => exact absurd HA.out (by simp [decklelaw12_NumberBack_t.l2])
                                            | succ k7 =>
                                              have H := HA.out
                                              clear HA
                                              simp only [decklelaw12_NumberBack_t.l2] at H
                                              by_cases c63 : x16_7 < (l1.length : Int)
                                              · rw [if_pos c63] at H
                                                have c63b0 : decide (x16_7 < (l1.length : Int)) = true := decide_eq_true c63
                                                clear c63
                                                by_cases c64 : 0 ≤ x16_7
                                                · rw [if_pos c64] at H
                                                  have c64b0 : decide (0 ≤ x16_7) = true := decide_eq_true c64
                                                  clear c64
                                                  by_cases c65 : x16_7 < (t312.length : Int)
                                                  · rw [if_pos c65] at H
                                                    have c65b0 : decide (x16_7 < (t312.length : Int)) = true := decide_eq_true c65
                                                    clear c65
                                                    by_cases c66 : (!(((rd_T28 t312 x16_7).f0) == ((rd_T28 l1 x16_7).f0)) || (!(((rd_T28 t312 x16_7).f1) == ((rd_T28 l1 x16_7).f1)))) = true
                                                    · rw [if_pos c66] at H
                                                      have c66b0 : (!(((rd_T28 t312 x16_7).f0) == ((rd_T28 l1 x16_7).f0)) || (!(((rd_T28 t312 x16_7).f1) == ((rd_T28 l1 x16_7).f1)))) = true := c66
                                                      clear c66
                                                      exact absurd (Option.some.inj H) (by rw [hr]; decide)
                                                    · rw [if_neg c66] at H
                                                      have c66b0 : (!(((rd_T28 t312 x16_7).f0) == ((rd_T28 l1 x16_7).f0)) || (!(((rd_T28 t312 x16_7).f1) == ((rd_T28 l1 x16_7).f1)))) = false := by simpa using c66
                                                      clear c66
                                                      have H' := Aside0.mk H
                                                      clear H
                                                      try go_wp2
                                                      have n0_ := Aside0.mk (Kd.R_drew HO_13.out)
                                                      have n1_ := Aside0.mk (below_drew1 HB.out)
                                                      clear HO_13
                                                      clear HB
                                                      have HO_13 := n0_
                                                      have HB := n1_
                                                      clear n0_ n1_
                                                      obtain ⟨Ao68, co68, eo68⟩ := Kd.R_slice HO_13.out
                                                      (first | subst eo68 | (injection eo68 with f1_ f2_ f3_; have f4_ := f1_.symm; have f5_ := f3_.symm; clear f1_ f2_ f3_; subst f4_; subst f5_))
                                                      have p317 : 0 ≤ (x16_7 : Int) := of_decide_eq_true (by first | (with_reducible assumption) | assumption)
                                                      have q317 : x16_7 < (t312.length : Int) := of_decide_eq_true (by first | (with_reducible assumption) | assumption)
                                                      obtain ⟨ad317, e317, hx317_0, hx317_1⟩ := at_T28 (Kd.R_reads' HO_13.out).2.2 x16_7 p317 q317
                                                      cases e317
                                                      replace p317 := eq_true p317
                                                      replace q317 := eq_true q317
                                                      have p318 : 0 ≤ (x16_7 : Int) := of_decide_eq_true (by first | (with_reducible assumption) | assumption)
                                                      have q318 : x16_7 < (l1.length : Int) := of_decide_eq_true (by first | (with_reducible assumption) | assumption)
                                                      obtain ⟨ad318, e318, hx318_0, hx318_1⟩ := at_T28 HR1.out x16_7 p318 q318
                                                      have hw318_1 := hx318_1
                                                      have hw318_0 := hx318_0
                                                      cases e318
                                                      replace hx318_0 := (HB.out.cell (World.block_lt_of_cell? w _ hx318_0)).trans hx318_0
                                                      replace hx318_1 := (HB.out.cell (World.block_lt_of_cell? w _ hx318_1)).trans hx318_1
                                                      replace p318 := eq_true p318
                                                      replace q318 := eq_true q318
                                                      refine start_ (n := 9) (S := fun w' => w'.cell? (ad317.add ((x16_7).toNat * 2)) = some (.int .i64 ((rd_T28 t312 x16_7).f0)) ∧ w'.cell? ⟨(ad317.add ((x16_7).toNat * 2)).block, (ad317.add ((x16_7).toNat * 2)).off + 1, none⟩ = some (.int .i64 ((rd_T28 t312 x16_7).f1)) ∧ w'.cell? (ad318.add ((x16_7).toNat * 2)) = some (.int .i64 ((rd_T28 l1 x16_7).f0)) ∧ w'.cell? ⟨(ad318.add ((x16_7).toNat * 2)).block, (ad318.add ((x16_7).toNat * 2)).off + 1, none⟩ = some (.int .i64 ((rd_T28 l1 x16_7).f1))) (ds := []) #[false, false, false, false, false, false, false, false, false] (by kernel_rfl) rfl rfl ⟨hx317_0, hx317_1, ((HB.out.cell (World.block_lt_of_cell? w _ hw318_0)).trans hw318_0), ((HB.out.cell (World.block_lt_of_cell? w _ hw318_1)).trans hw318_1)⟩ (fun hHeld => ?_); refine with_tabW decklelaw12_NumberBack_t.tab25 decklelaw12_NumberBack_t.bits25 (fun HT_ HW_ => ?_)
                                                      generalize wr.drew = w67 at HO_13 HB hx317_0 hx317_1 hx318_0 hx318_1 hHeld ⊢
                                                      refine pure_ (i := 0) (N := some 156) (v := ?_) (a' := ?_) #[true, false, false, false, false, false, false, false, false] rfl rfl (any_of HT_.out (by kernel_rfl)) (fun _ _ _ h => h) (Or.inl ⟨by rfl, ?_⟩) ?_ ?_
                                                      rotate_left
                                                      · intro w'
                                                        go_simp
                                                        with_reducible rfl
                                                      rotate_left
                                                      · simp only [Act.put, List.setIfInBounds_toArray, List.set_cons_zero, List.set_cons_succ, i64_w, i32_w]
                                                        rfl
                                                      refine pure_ (i := 1) (N := some 157) (v := ?_) (a' := ?_) #[true, true, false, false, false, false, false, false, false] rfl rfl (any_of HT_.out (by kernel_rfl)) (fun _ _ _ h => h) (Or.inl ⟨by rfl, ?_⟩) ?_ ?_
                                                      rotate_left
                                                      · intro w'
                                                        go_simp
                                                        with_reducible rfl
                                                      rotate_left
                                                      · simp only [Act.put, List.setIfInBounds_toArray, List.set_cons_zero, List.set_cons_succ, i64_w, i32_w]
                                                        rfl
                                                      refine pure_ (i := 2) (N := some 158) (v := ?_) (a' := ?_) #[true, true, true, false, false, false, false, false, false] rfl rfl (any_of HT_.out (by kernel_rfl)) (fun _ _ _ h => h) (Or.inl ⟨by rfl, ?_⟩) ?_ ?_
                                                      rotate_left
                                                      · intro w'
                                                        go_simp
                                                        with_reducible rfl
                                                      rotate_left
                                                      · simp only [Act.put, List.setIfInBounds_toArray, List.set_cons_zero, List.set_cons_succ, i64_w, i32_w]
                                                        rfl
                                                      refine pure_ (i := 4) (N := some 160) (v := ?_) (a' := ?_) #[true, true, true, false, true, false, false, false, false] rfl rfl (any_of HT_.out (by kernel_rfl)) (fun _ _ _ h => h) (Or.inl ⟨by rfl, ?_⟩) ?_ ?_
                                                      rotate_left
                                                      · intro w'
                                                        go_simp
                                                        with_reducible rfl
                                                      rotate_left
                                                      · simp only [Act.put, List.setIfInBounds_toArray, List.set_cons_zero, List.set_cons_succ, i64_w, i32_w]
                                                        rfl
                                                      refine pure_ (i := 5) (N := some 161) (v := ?_) (a' := ?_) #[true, true, true, false, true, true, false, false, false] rfl rfl (any_of HT_.out (by kernel_rfl)) (fun _ _ _ h => h) (Or.inl ⟨by rfl, ?_⟩) ?_ ?_
                                                      rotate_left
                                                      · intro w'
                                                        go_simp
                                                        with_reducible rfl
                                                      rotate_left
                                                      · simp only [Act.put, List.setIfInBounds_toArray, List.set_cons_zero, List.set_cons_succ, i64_w, i32_w]
                                                        rfl
                                                      refine pure_ (i := 6) (N := some 162) (v := ?_) (a' := ?_) #[true, true, true, false, true, true, true, false, false] rfl rfl (any_of HT_.out (by kernel_rfl)) (fun _ _ _ h => h) (Or.inl ⟨by rfl, ?_⟩) ?_ ?_
                                                      rotate_left
                                                      · intro w'
                                                        go_simp
                                                        with_reducible rfl
                                                      rotate_left
                                                      · simp only [Act.put, List.setIfInBounds_toArray, List.set_cons_zero, List.set_cons_succ, i64_w, i32_w]
                                                        rfl
                                                      refine take_ (i := 3) (N := some 159) (v := ?_) (a' := ?_) #[true, true, true, true, true, true, true, false, false] rfl rfl (take_ofW HT_.out HW_.out (by kernel_rfl)) (fun _ _ _ h => h) (Or.inl ⟨by rfl, ?_⟩) hHeld ?_ ?_
                                                      rotate_left
                                                      · rintro w' ⟨s0, s1, s2, s3⟩
                                                        go_simp
                                                        with_reducible rfl
                                                      rotate_left
                                                      · simp only [Act.put, List.setIfInBounds_toArray, List.set_cons_zero, List.set_cons_succ, i64_w, i32_w]
                                                        rfl
                                                      refine take_ (i := 7) (N := some 163) (v := ?_) (a' := ?_) #[true, true, true, true, true, true, true, true, false] rfl rfl (take_ofW HT_.out HW_.out (by kernel_rfl)) (fun _ _ _ h => h) (Or.inl ⟨by rfl, ?_⟩) hHeld ?_ ?_
                                                      rotate_left
                                                      · rintro w' ⟨s0, s1, s2, s3⟩
                                                        go_simp
                                                        with_reducible rfl
                                                      rotate_left
                                                      · simp only [Act.put, List.setIfInBounds_toArray, List.set_cons_zero, List.set_cons_succ, i64_w, i32_w]
                                                        rfl
                                                      refine pure_ (i := 8) (N := some 164) (v := ?_) (a' := ?_) #[true, true, true, true, true, true, true, true, true] rfl rfl (any_of HT_.out (by kernel_rfl)) (fun _ _ _ h => h) (Or.inl ⟨by rfl, ?_⟩) ?_ ?_
                                                      rotate_left
                                                      · intro w'
                                                        go_simp
                                                        with_reducible rfl
                                                      rotate_left
                                                      · simp only [Act.put, List.setIfInBounds_toArray, List.set_cons_zero, List.set_cons_succ, i64_w, i32_w]
                                                        rfl
                                                      refine done_ (done_of HT_.out (by kernel_rfl)) ?_
                                                      try go_wp2
                                                      go_roundg k7
                                                      case measure => have := HJ4.out; have := HJ11.out; have := HJ28.out; have := HK4.out; have := HK5.out; have := HJ55.out; have := HK7.out; omega
                                                      case rel => exact ⟨(wrap64 (x16_7 + 1)), (by first | rfl | (simp; done) | (simp [*]; done)), H', ⟨by have := HJ4.out; have := HJ11.out; have := HJ28.out; have := HK4.out; have := HK5.out; have := HJ55.out; have := HK7.out; omega⟩, ⟨by (with_reducible repeat (first | apply Kd.R_alloc | apply Kd.R_drewN | apply Kd.R_drew)); exact HO_13.out⟩, ⟨by repeat (first | (with_reducible first | exact HB.out | apply below_alloc | apply pw_below_drewN | apply below_drew1) | exact HB.out)⟩⟩
                                                  · rw [if_neg c65] at H
                                                    exact absurd H (by simp)
                                                · rw [if_neg c64] at H
                                                  exact absurd H (by simp)
                                              · rw [if_neg c63] at H
                                                have c63b0 : decide (x16_7 < (l1.length : Int)) = false := decide_eq_false c63
                                                clear c63
                                                clear hr
                                                obtain rfl := Option.some.inj H
                                                go_wp2
                                                go_ret
                                                exact ⟨by first | rfl | (simp [errW_none, errW_some] <;> rfl) | (simp [*, errW_none, errW_some] <;> rfl) | (simp [errW_none, errW_some, bne_nil_, beq_nil_]; done) | (simp [*, errW_none, errW_some, bne_nil_, beq_nil_]; done), by repeat (first | (with_reducible first | exact HB.out | apply below_alloc | apply pw_below_drewN | apply below_drew1) | exact HB.out)⟩
                                  · rw [if_neg c54] at H
                                    exact absurd H (by simp)
              · rw [if_neg c27] at H
                exact absurd H (by simp)

end Go.Proofs.YtbbonbhammfpjaaDoor.All
