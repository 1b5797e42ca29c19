-- Written for this claim by wip/tools/gprint.py out of the translation (it drives the kit's print). Lean checks it.
import Derived.Test.YtbbonbhammfpjaaDoorAll0
import Derived.Test.YtbbonbhammfpjaaDoorAll1
import Derived.Test.YtbbonbhammfpjaaDoorAll5
import Derived.Test.YtbbonbhammfpjaaDoorAll6
import Derived.Test.YtbbonbhammfpjaaDoorAll10
import Derived.Test.YtbbonbhammfpjaaDoorAll15
namespace Go.Proofs.YtbbonbhammfpjaaDoor.All
open Go.RowKit Go.Proofs.YtbbonbhammfpjaaDoorW.PrintWords Go.Proofs.YtbbonbhammfpjaaDoorW.PrintLast Go.Proofs.YtbbonbhammfpjaaDoorW.PrintMore Go.Proofs.YtbbonbhammfpjaaDoor.G
attribute [local go_sem] max2_int min2_int max_two min_two max_three min_three max_four min_four str_leq str_gtr str_geq   -- for this text's walks alone
set_option linter.unusedVariables false
set_option linter.unusedSimpArgs false

attribute [local go_sem high] eqA28
/-! ### deckleref12_Decs: function 14 -/
def deckleref12_Decs.l0 : Nat → List (S28) → ByteArray → Int → Option (ByteArray)
  | 0, _, _, _ => none
  | k + 1, x0, x3, x4 => if x4 < (x0.length : Int) then (if 0 ≤ x4 then ((deckleref06_Text.f k ((rd_T28 x0 x4).f0) ((rd_T28 x0 x4).f1)).bind fun t279 => (if t279.toList = ([] : List UInt8) then (some (⟨#[]⟩ : ByteArray)) else (if x4 > 0 then (if x3.size + 1 ≤ 9223372036854775807 then (if (x3 ++ (⟨#[32]⟩ : ByteArray)).size + t279.size ≤ 9223372036854775807 then (deckleref12_Decs.l0 k x0 ((x3 ++ (⟨#[32]⟩ : ByteArray)) ++ t279) (wrap64 (x4 + 1))) else (none)) else (none)) else (if x3.size + t279.size ≤ 9223372036854775807 then (deckleref12_Decs.l0 k x0 (x3 ++ t279) (wrap64 (x4 + 1))) else (none))))) else (none)) else (some x3)
def deckleref12_Decs.f (k : Nat) (l0 : List (S28)) : Option (ByteArray) := deckleref12_Decs.l0 k l0 (⟨#[]⟩ : ByteArray) 0
theorem deckleref12_Decs.mono_l : ∀ k, (∀ y0 y1 y2, LeO (deckleref12_Decs.l0 k y0 y1 y2) (deckleref12_Decs.l0 (k + 1) y0 y1 y2))
  | 0 => fun _ _ _ r h => by simp [deckleref12_Decs.l0] at h
  | k + 1 => by
    have ih0 := deckleref12_Decs.mono_l k
    · intro y0 y1 y2
      unfold deckleref12_Decs.l0
      repeat' first
      | (with_reducible exact ih0 _ _ _)
      | (with_reducible exact deckleref06_Text.mono _ _ _)
      | (with_reducible exact LeO.refl _)
      | (with_reducible exact LeO.none _)
      | (with_reducible refine LeO.ite ?_ ?_)
      | (with_reducible refine LeO.bind ?_ (fun _ => ?_))
      | exact ih0 _ _ _
      | exact deckleref06_Text.mono _ _ _
      | exact LeO.none _
      | refine LeO.ite ?_ ?_
      | refine LeO.bind ?_ (fun _ => ?_)
theorem deckleref12_Decs.mono : ∀ a0 k, LeO (deckleref12_Decs.f k a0) (deckleref12_Decs.f (k + 1) a0) := by
  intro a0 k
  have ih0 := deckleref12_Decs.mono_l k
  unfold deckleref12_Decs.f
  repeat' first
      | (with_reducible exact ih0 _ _ _)
      | (with_reducible exact deckleref06_Text.mono _ _ _)
      | (with_reducible exact LeO.refl _)
      | (with_reducible exact LeO.none _)
      | (with_reducible refine LeO.ite ?_ ?_)
      | (with_reducible refine LeO.bind ?_ (fun _ => ?_))
      | exact ih0 _ _ _
      | exact deckleref06_Text.mono _ _ _
      | exact LeO.none _
      | refine LeO.ite ?_ ?_
      | refine LeO.bind ?_ (fun _ => ?_)
set_option maxHeartbeats 8000000 in
set_option maxRecDepth 100000 in
theorem deckleref12_Decs.calls (k : Nat) (A0 : Option Addr) (c0 : Nat) (l0 : List (S28)) (r : ByteArray) (w : World) (hT : Tabs w) (hr0 : Kd.C k28 w A0 l0.length l0) (hc0 : l0.length ≤ c0) (h : deckleref12_Decs.f k l0 = some r) :
    Calls Tryd.prog 14 #[.slice A0 l0.length c0] w fun e w' => e = .returned (.string r) ∧ Below w.heap.size w w' := by
  have hu28 := Tryd.underlying28
  have HR0 := Aside0.mk hr0
  have HC0 := Aside0.mk hc0
  clear hr0 hc0
  have HB := Aside0.mk (Below.refl w.heap.size w)
  have H : (deckleref12_Decs.l0 k l0 (⟨#[]⟩ : ByteArray) 0) = some r := h
  clear h
  have H' := Aside0.mk H
  clear H
  go_enter Tryd.func14, Tryd.ntmps14
  go_wp2
  go_loopg [3, 4] k (fun kq v3 v4 w' => ∃ (x3_1 : ByteArray) (x4_1 : Int), v3 = .string x3_1 ∧ v4 = .int .i64 x4_1 ∧ Aside0 (deckleref12_Decs.l0 kq l0 x3_1 x4_1 = some r) ∧ Aside0 (kq ≤ k) ∧ Aside0 (Below w.heap.size w w'))
  case atStart => exact ⟨((⟨#[]⟩ : ByteArray)), (0), (by first | rfl | (simp; done) | (simp [*]; done)), (by first | rfl | (simp; done) | (simp [*]; done)), H', ⟨Nat.le_refl _⟩, ⟨by repeat (first | (with_reducible first | exact HB.out | apply below_alloc | apply pw_below_drewN | apply below_drew1) | exact HB.out)⟩⟩
  case round =>
    clear H'
    try clear c1
    obtain ⟨x3_1, x4_1, rfl, rfl, HA, HK1, HB⟩ := hrel
    cases gk with
    | zero => exact absurd HA.out (by simp [deckleref12_Decs.l0])
    | succ k1 =>
      have H := HA.out
      clear HA
      simp only [deckleref12_Decs.l0] at H
      by_cases c2 : x4_1 < (l0.length : Int)
      · rw [if_pos c2] at H
        have c2b0 : decide (x4_1 < (l0.length : Int)) = true := decide_eq_true c2
        clear c2
        by_cases c3 : 0 ≤ x4_1
        · rw [if_pos c3] at H
          have c3b0 : decide (0 ≤ x4_1) = true := decide_eq_true c3
          clear c3
          replace H := Option.bind_eq_some_iff.mp H
          obtain ⟨t279, A40, H⟩ := H
          have A4 := Aside0.mk A40; clear A40
          by_cases c5 : t279.toList = ([] : List UInt8)
          · rw [if_pos c5] at H
            have c5b0 : (t279.toList == ([] : List UInt8)) = true := beq_iff_eq.mpr c5
            have c5b1 : (t279.toList != ([] : List UInt8)) = false := bne_eq_false_iff_eq.mpr c5
            clear c5
            obtain rfl := Option.some.inj H
            have p278 : 0 ≤ (x4_1 : Int) := of_decide_eq_true (by first | (with_reducible assumption) | assumption)
            have q278 : x4_1 < (l0.length : Int) := of_decide_eq_true (by first | (with_reducible assumption) | assumption)
            obtain ⟨ad278, e278, hx278_0, hx278_1⟩ := at_T28 HR0.out x4_1 p278 q278
            cases e278
            replace hx278_0 := (HB.out.cell (World.block_lt_of_cell? w _ hx278_0)).trans hx278_0
            replace hx278_1 := (HB.out.cell (World.block_lt_of_cell? w _ hx278_1)).trans hx278_1
            replace p278 := eq_true p278
            replace q278 := eq_true q278
            go_wp2_with (first | ((with_reducible refine gate_callee (f := 26) rfl ?_); refine goesL_ (some 16) rfl rfl Tryd.func26 (by kernel_rfl) rfl #[.agg #[.int .i64 ((rd_T28 l0 x4_1).f0), .int .i64 ((rd_T28 l0 x4_1).f1)]] rfl (by (try simp only [List.map_toArray, List.map_cons, List.map_nil]); first | done | rfl | (simp only [List.length_drop, List.length_take]; rfl)) ?_; (with_reducible refine (deckleref06_Text.calls k1 ((rd_T28 l0 x4_1).f0) ((rd_T28 l0 x4_1).f1) t279 _ ?side1 A4.out).mono ?_); (case side1 => first | exact hT | ((repeat (with_reducible first | exact hT | apply Tabs.drewN | apply Tabs.drew)); done) | exact Tabs.below hT (by repeat (first | (with_reducible first | exact HB.out | apply below_alloc | apply pw_below_drewN | apply below_drew1) | exact HB.out))); rintro e w6 ⟨rfl, hb⟩; refine ⟨_, rfl, ?_⟩; have n0_ := Aside0.mk (below_step (by repeat (first | (with_reducible first | exact HB.out | apply below_alloc | apply pw_below_drewN | apply below_drew1) | exact HB.out)) hb); clear HB; have HB := n0_; clear n0_; (try clear hb); (try clear hb2); (try clear hk); (try clear hi)))
            go_ret
            exact ⟨by first | rfl | (simp [errW_none, errW_some] <;> rfl) | (simp [*, errW_none, errW_some] <;> rfl) | (simp [errW_none, errW_some, bne_nil_, beq_nil_]; done) | (simp [*, errW_none, errW_some, bne_nil_, beq_nil_]; done), by repeat (first | (with_reducible first | exact HB.out | apply below_alloc | apply pw_below_drewN | apply below_drew1) | exact HB.out)⟩
          · rw [if_neg c5] at H
            have c5b0 : (t279.toList == ([] : List UInt8)) = false := beq_eq_false_iff_ne.mpr c5
            have c5b1 : (t279.toList != ([] : List UInt8)) = true := bne_iff_ne.mpr c5
            by_cases c7 : x4_1 > 0
            · rw [if_pos c7] at H
              have c7b0 : decide (0 < x4_1) = true := decide_eq_true c7
              clear c7
              by_cases c8 : x3_1.size + 1 ≤ 9223372036854775807
              · rw [if_pos c8] at H
                have c8b0 := eq_true c8
                have c8b1 : decide (x3_1.size + 1 ≤ 9223372036854775807) = true := decide_eq_true c8
                try have c8b2 : (9223372036854775807 < x3_1.size + 1) = False := eq_false (Nat.not_lt.2 c8)
                by_cases c9 : (x3_1 ++ (⟨#[32]⟩ : ByteArray)).size + t279.size ≤ 9223372036854775807
                · rw [if_pos c9] at H
                  have c9b0 := eq_true c9
                  have c9b1 : decide ((x3_1 ++ (⟨#[32]⟩ : ByteArray)).size + t279.size ≤ 9223372036854775807) = true := decide_eq_true c9
                  try have c9b2 : (9223372036854775807 < (x3_1 ++ (⟨#[32]⟩ : ByteArray)).size + t279.size) = False := eq_false (Nat.not_lt.2 c9)
                  try have c9b3 : (9223372036854775807 < x3_1.size + 1 + t279.size) = False := eq_false (Nat.not_lt.2 (by have h_ := c9; simp only [ByteArray.size_append] at h_; exact h_))
                  have H' := Aside0.mk H
                  clear H
                  have p278 : 0 ≤ (x4_1 : Int) := of_decide_eq_true (by first | (with_reducible assumption) | assumption)
                  have q278 : x4_1 < (l0.length : Int) := of_decide_eq_true (by first | (with_reducible assumption) | assumption)
                  obtain ⟨ad278, e278, hx278_0, hx278_1⟩ := at_T28 HR0.out x4_1 p278 q278
                  cases e278
                  replace hx278_0 := (HB.out.cell (World.block_lt_of_cell? w _ hx278_0)).trans hx278_0
                  replace hx278_1 := (HB.out.cell (World.block_lt_of_cell? w _ hx278_1)).trans hx278_1
                  replace p278 := eq_true p278
                  replace q278 := eq_true q278
                  go_wp2_with (first | ((with_reducible refine gate_callee (f := 26) rfl ?_); refine goesL_ (some 16) rfl rfl Tryd.func26 (by kernel_rfl) rfl #[.agg #[.int .i64 ((rd_T28 l0 x4_1).f0), .int .i64 ((rd_T28 l0 x4_1).f1)]] rfl (by (try simp only [List.map_toArray, List.map_cons, List.map_nil]); first | done | rfl | (simp only [List.length_drop, List.length_take]; rfl)) ?_; (with_reducible refine (deckleref06_Text.calls k1 ((rd_T28 l0 x4_1).f0) ((rd_T28 l0 x4_1).f1) t279 _ ?side1 A4.out).mono ?_); (case side1 => first | exact hT | ((repeat (with_reducible first | exact hT | apply Tabs.drewN | apply Tabs.drew)); done) | exact Tabs.below hT (by repeat (first | (with_reducible first | exact HB.out | apply below_alloc | apply pw_below_drewN | apply below_drew1) | exact HB.out))); rintro e w10 ⟨rfl, hb⟩; refine ⟨_, rfl, ?_⟩; have n0_ := Aside0.mk (below_step (by repeat (first | (with_reducible first | exact HB.out | apply below_alloc | apply pw_below_drewN | apply below_drew1) | exact HB.out)) hb); clear HB; have HB := n0_; clear n0_; (try clear hb); (try clear hb2); (try clear hk); (try clear hi)))
                  go_roundg k1
                  case measure => have := HK1.out; omega
                  case rel => exact ⟨((x3_1 ++ (⟨#[32]⟩ : ByteArray)) ++ t279), (wrap64 (x4_1 + 1)), (by first | rfl | (simp; done) | (simp [*]; done)), (by first | rfl | (simp; done) | (simp [*]; done)), H', ⟨by have := HK1.out; omega⟩, ⟨by repeat (first | (with_reducible first | exact HB.out | apply below_alloc | apply pw_below_drewN | apply below_drew1) | exact HB.out)⟩⟩
                · rw [if_neg c9] at H
                  exact absurd H (by simp)
              · rw [if_neg c8] at H
                exact absurd H (by simp)
            · rw [if_neg c7] at H
              have c7b0 : decide (0 < x4_1) = false := decide_eq_false c7
              clear c7
              by_cases c11 : x3_1.size + t279.size ≤ 9223372036854775807
              · rw [if_pos c11] at H
                have c11b0 := eq_true c11
                have c11b1 : decide (x3_1.size + t279.size ≤ 9223372036854775807) = true := decide_eq_true c11
                try have c11b2 : (9223372036854775807 < x3_1.size + t279.size) = False := eq_false (Nat.not_lt.2 c11)
                have H' := Aside0.mk H
                clear H
                have p278 : 0 ≤ (x4_1 : Int) := of_decide_eq_true (by first | (with_reducible assumption) | assumption)
                have q278 : x4_1 < (l0.length : Int) := of_decide_eq_true (by first | (with_reducible assumption) | assumption)
                obtain ⟨ad278, e278, hx278_0, hx278_1⟩ := at_T28 HR0.out x4_1 p278 q278
                cases e278
                replace hx278_0 := (HB.out.cell (World.block_lt_of_cell? w _ hx278_0)).trans hx278_0
                replace hx278_1 := (HB.out.cell (World.block_lt_of_cell? w _ hx278_1)).trans hx278_1
                replace p278 := eq_true p278
                replace q278 := eq_true q278
                go_wp2_with (first | ((with_reducible refine gate_callee (f := 26) rfl ?_); refine goesL_ (some 16) rfl rfl Tryd.func26 (by kernel_rfl) rfl #[.agg #[.int .i64 ((rd_T28 l0 x4_1).f0), .int .i64 ((rd_T28 l0 x4_1).f1)]] rfl (by (try simp only [List.map_toArray, List.map_cons, List.map_nil]); first | done | rfl | (simp only [List.length_drop, List.length_take]; rfl)) ?_; (with_reducible refine (deckleref06_Text.calls k1 ((rd_T28 l0 x4_1).f0) ((rd_T28 l0 x4_1).f1) t279 _ ?side1 A4.out).mono ?_); (case side1 => first | exact hT | ((repeat (with_reducible first | exact hT | apply Tabs.drewN | apply Tabs.drew)); done) | exact Tabs.below hT (by repeat (first | (with_reducible first | exact HB.out | apply below_alloc | apply pw_below_drewN | apply below_drew1) | exact HB.out))); rintro e w12 ⟨rfl, hb⟩; refine ⟨_, rfl, ?_⟩; have n0_ := Aside0.mk (below_step (by repeat (first | (with_reducible first | exact HB.out | apply below_alloc | apply pw_below_drewN | apply below_drew1) | exact HB.out)) hb); clear HB; have HB := n0_; clear n0_; (try clear hb); (try clear hb2); (try clear hk); (try clear hi)))
                go_roundg k1
                case measure => have := HK1.out; omega
                case rel => exact ⟨(x3_1 ++ t279), (wrap64 (x4_1 + 1)), (by first | rfl | (simp; done) | (simp [*]; done)), (by first | rfl | (simp; done) | (simp [*]; done)), H', ⟨by have := HK1.out; omega⟩, ⟨by repeat (first | (with_reducible first | exact HB.out | apply below_alloc | apply pw_below_drewN | apply below_drew1) | exact HB.out)⟩⟩
              · rw [if_neg c11] at H
                exact absurd H (by simp)
        · rw [if_neg c3] at H
          exact absurd H (by simp)
      · rw [if_neg c2] at H
        have c2b0 : decide (x4_1 < (l0.length : Int)) = false := decide_eq_false c2
        clear c2
        obtain rfl := Option.some.inj H
        go_wp2
        go_ret
        exact ⟨by first | rfl | (simp [errW_none, errW_some] <;> rfl) | (simp [*, errW_none, errW_some] <;> rfl) | (simp [errW_none, errW_some, bne_nil_, beq_nil_]; done) | (simp [*, errW_none, errW_some, bne_nil_, beq_nil_]; done), by repeat (first | (with_reducible first | exact HB.out | apply below_alloc | apply pw_below_drewN | apply below_drew1) | exact HB.out)⟩

/-! ### decklelaw12_NumberTells_t: function 3 -/
def decklelaw12_NumberTells_t.l0 : Nat → List Int → List (S28) → Bool → List (S28) → ByteArray → Bool → List (S28) → ByteArray → Bool → Int → Option (Bool)
  | 0, _, _, _, _, _, _, _, _, _, _ => none
  | k + 1, x0, x1, x7, x8, x9, x10, x11, x12, x13, x14 => if x14 < (x8.length : Int) then (if 0 ≤ x14 then (if x14 < (x11.length : Int) then (if (!(((rd_T28 x8 x14).f0) == ((rd_T28 x11 x14).f0)) || (!(((rd_T28 x8 x14).f1) == ((rd_T28 x11 x14).f1)))) = true then (some false) else (decklelaw12_NumberTells_t.l0 k x0 x1 x7 x8 x9 x10 x11 x12 x13 (wrap64 (x14 + 1)))) else (none)) else (none)) else (if x7 = true then (if x9.toList = x12.toList then (if (x10 == x13) = true then ((number_Ints.f k x0).bind fun t293 => ((deckleref12_Ints.f k x0).bind fun t294 => (if t293.toList = t294.toList then ((number_Decs.f k x1).bind fun t295 => ((deckleref12_Decs.f k x1).bind fun t296 => (some (t295.toList == t296.toList)))) else (some false)))) else (some false)) else (some false)) else (some false))
def decklelaw12_NumberTells_t.f (k : Nat) (l0 : List Int) (l1 : List (S28)) (a2 : ByteArray) : Option (Bool) := (decklelaw12_small.f k).bind fun t280 => (if (l0.length : Int) > 100 then (some t280) else (if (l1.length : Int) > 100 then (some t280) else (if (a2.size : Int) > 500 then (some t280) else ((number_Read.f k a2).bind fun bt281 => ((deckleref12_Read.f k a2).bind fun bt286 => (if (bt281.1.length : Int) = (bt286.1.length : Int) then (decklelaw12_NumberTells_t.l0 k l0 l1 t280 bt281.1 bt281.2.1 bt281.2.2 bt286.1 bt286.2.1 bt286.2.2 0) else (some false)))))))
theorem decklelaw12_NumberTells_t.mono_l : ∀ k, (∀ y0 y1 y2 y3 y4 y5 y6 y7 y8 y9, LeO (decklelaw12_NumberTells_t.l0 k y0 y1 y2 y3 y4 y5 y6 y7 y8 y9) (decklelaw12_NumberTells_t.l0 (k + 1) y0 y1 y2 y3 y4 y5 y6 y7 y8 y9))
  | 0 => fun _ _ _ _ _ _ _ _ _ _ r h => by simp [decklelaw12_NumberTells_t.l0] at h
  | k + 1 => by
    have ih0 := decklelaw12_NumberTells_t.mono_l k
    · intro y0 y1 y2 y3 y4 y5 y6 y7 y8 y9
      unfold decklelaw12_NumberTells_t.l0
      repeat' first
      | (with_reducible exact ih0 _ _ _ _ _ _ _ _ _ _)
      | (with_reducible exact decklelaw12_small.mono _)
      | (with_reducible exact deckleref12_Decs.mono _ _)
      | (with_reducible exact deckleref12_Ints.mono _ _)
      | (with_reducible exact deckleref12_Read.mono _ _)
      | (with_reducible exact number_Decs.mono _ _)
      | (with_reducible exact number_Ints.mono _ _)
      | (with_reducible exact number_Read.mono _ _)
      | (with_reducible exact LeO.refl _)
      | (with_reducible exact LeO.none _)
      | (with_reducible refine LeO.ite ?_ ?_)
      | (with_reducible refine LeO.bind ?_ (fun _ => ?_))
      | exact ih0 _ _ _ _ _ _ _ _ _ _
      | exact decklelaw12_small.mono _
      | exact deckleref12_Decs.mono _ _
      | exact deckleref12_Ints.mono _ _
      | exact deckleref12_Read.mono _ _
      | exact number_Decs.mono _ _
      | exact number_Ints.mono _ _
      | exact number_Read.mono _ _
      | exact LeO.none _
      | refine LeO.ite ?_ ?_
      | refine LeO.bind ?_ (fun _ => ?_)
theorem decklelaw12_NumberTells_t.mono : ∀ a0 a1 a2 k, LeO (decklelaw12_NumberTells_t.f k a0 a1 a2) (decklelaw12_NumberTells_t.f (k + 1) a0 a1 a2) := by
  intro a0 a1 a2 k
  have ih0 := decklelaw12_NumberTells_t.mono_l k
  unfold decklelaw12_NumberTells_t.f
  repeat' first
      | (with_reducible exact ih0 _ _ _ _ _ _ _ _ _ _)
      | (with_reducible exact decklelaw12_small.mono _)
      | (with_reducible exact deckleref12_Decs.mono _ _)
      | (with_reducible exact deckleref12_Ints.mono _ _)
      | (with_reducible exact deckleref12_Read.mono _ _)
      | (with_reducible exact number_Decs.mono _ _)
      | (with_reducible exact number_Ints.mono _ _)
      | (with_reducible exact number_Read.mono _ _)
      | (with_reducible exact LeO.refl _)
      | (with_reducible exact LeO.none _)
      | (with_reducible refine LeO.ite ?_ ?_)
      | (with_reducible refine LeO.bind ?_ (fun _ => ?_))
      | exact ih0 _ _ _ _ _ _ _ _ _ _
      | exact decklelaw12_small.mono _
      | exact deckleref12_Decs.mono _ _
      | exact deckleref12_Ints.mono _ _
      | exact deckleref12_Read.mono _ _
      | exact number_Decs.mono _ _
      | exact number_Ints.mono _ _
      | exact number_Read.mono _ _
      | exact LeO.none _
      | refine LeO.ite ?_ ?_
      | refine LeO.bind ?_ (fun _ => ?_)
set_option maxHeartbeats 8000000 in
set_option maxRecDepth 100000 in
theorem decklelaw12_NumberTells_t.calls (k : Nat) (A0 : Option Addr) (c0 : Nat) (l0 : List Int) (A1 : Option Addr) (c1 : Nat) (l1 : List (S28)) (a2 : ByteArray) (r : Bool) (w : World) (hT : Tabs w) (hr : r = true) (hr0 : Kd.C (Kd.int .i64) w A0 l0.length l0) (hc0 : l0.length ≤ c0) (hr1 : Kd.C k28 w A1 l1.length l1) (hc1 : l1.length ≤ c1) (h : decklelaw12_NumberTells_t.f k l0 l1 a2 = some r) :
    Calls Tryd.prog 3 #[.slice A0 l0.length c0, .slice A1 l1.length c1, .string a2] w fun e w' => e = .returned (.bool r) ∧ Below w.heap.size w w' := by
  have hu28 := Tryd.underlying28
  have HR0 := Aside0.mk hr0
  have HC0 := Aside0.mk hc0
  clear hr0 hc0
  have HR1 := Aside0.mk hr1
  have HC1 := Aside0.mk hc1
  clear hr1 hc1
  have HB := Aside0.mk (Below.refl w.heap.size w)
  have H : ((decklelaw12_small.f k).bind fun t280 => (if (l0.length : Int) > 100 then (some t280) else (if (l1.length : Int) > 100 then (some t280) else (if (a2.size : Int) > 500 then (some t280) else ((number_Read.f k a2).bind fun bt281 => ((deckleref12_Read.f k a2).bind fun bt286 => (if (bt281.1.length : Int) = (bt286.1.length : Int) then (decklelaw12_NumberTells_t.l0 k l0 l1 t280 bt281.1 bt281.2.1 bt281.2.2 bt286.1 bt286.2.1 bt286.2.2 0) else (some false)))))))) = some r := h
  clear h
  replace H := Option.bind_eq_some_iff.mp H
  obtain ⟨t280, A40, H⟩ := H
  have A4 := Aside0.mk A40; clear A40
  by_cases c5 : (l0.length : Int) > 100
  · rw [if_pos c5] at H
    have c5b0 : decide (100 < (l0.length : Int)) = true := decide_eq_true c5
    have c5b1 : decide (100 < l0.length) = true := decide_eq_true (by omega)
    clear c5
    clear hr
    obtain rfl := Option.some.inj H
    go_enter Tryd.func3, Tryd.ntmps3
    go_wp2_with (first | (go_at_call 8; (with_reducible refine (decklelaw12_small.calls k  t280 _ ?side1 A4.out).mono ?_); (case side1 => first | exact hT | ((repeat (with_reducible first | exact hT | apply Tabs.drewN | apply Tabs.drew)); done) | exact Tabs.below hT (by repeat (first | (with_reducible first | exact HB.out | apply below_alloc | apply pw_below_drewN | apply below_drew1) | exact HB.out))); rintro e w6 ⟨rfl, hb⟩; have n0_ := Aside0.mk (below_step (by repeat (first | (with_reducible first | exact HB.out | apply below_alloc | apply pw_below_drewN | apply below_drew1) | exact HB.out)) hb); clear HB; have HB := n0_; clear n0_; (try clear hb); (try clear hb2); (try clear hk); (try clear hi)))
    repeat (go_quiet (first | (go_at_call 8; (with_reducible refine (decklelaw12_small.calls k  t280 _ ?side1 A4.out).mono ?_); (case side1 => first | exact hT | ((repeat (with_reducible first | exact hT | apply Tabs.drewN | apply Tabs.drew)); done) | exact Tabs.below hT (by repeat (first | (with_reducible first | exact HB.out | apply below_alloc | apply pw_below_drewN | apply below_drew1) | exact HB.out))); rintro e w6 ⟨rfl, hb⟩; have n0_ := Aside0.mk (below_step (by repeat (first | (with_reducible first | exact HB.out | apply below_alloc | apply pw_below_drewN | apply below_drew1) | exact HB.out)) hb); clear HB; have HB := n0_; clear n0_; (try clear hb); (try clear hb2); (try clear hk); (try clear hi))); try go_wp2_with (first | (go_at_call 8; (with_reducible refine (decklelaw12_small.calls k  t280 _ ?side1 A4.out).mono ?_); (case side1 => first | exact hT | ((repeat (with_reducible first | exact hT | apply Tabs.drewN | apply Tabs.drew)); done) | exact Tabs.below hT (by repeat (first | (with_reducible first | exact HB.out | apply below_alloc | apply pw_below_drewN | apply below_drew1) | exact HB.out))); rintro e w6 ⟨rfl, hb⟩; have n0_ := Aside0.mk (below_step (by repeat (first | (with_reducible first | exact HB.out | apply below_alloc | apply pw_below_drewN | apply below_drew1) | exact HB.out)) hb); clear HB; have HB := n0_; clear n0_; (try clear hb); (try clear hb2); (try clear hk); (try clear hi))))
    go_ret
    exact ⟨by first | rfl | (simp [errW_none, errW_some] <;> rfl) | (simp [*, errW_none, errW_some] <;> rfl) | (simp [errW_none, errW_some, bne_nil_, beq_nil_]; done) | (simp [*, errW_none, errW_some, bne_nil_, beq_nil_]; done), by repeat (first | (with_reducible first | exact HB.out | apply below_alloc | apply pw_below_drewN | apply below_drew1) | exact HB.out)⟩
  · rw [if_neg c5] at H
    have c5b0 : decide (100 < (l0.length : Int)) = false := decide_eq_false c5
    have c5b1 : decide (100 < l0.length) = false := decide_eq_false (by omega)
    clear c5
    by_cases c7 : (l1.length : Int) > 100
    · rw [if_pos c7] at H
      have c7b0 : decide (100 < (l1.length : Int)) = true := decide_eq_true c7
      have c7b1 : decide (100 < l1.length) = true := decide_eq_true (by omega)
      clear c7
      clear hr
      obtain rfl := Option.some.inj H
      go_enter Tryd.func3, Tryd.ntmps3
      go_wp2_with (first | (go_at_call 8; (with_reducible refine (decklelaw12_small.calls k  t280 _ ?side1 A4.out).mono ?_); (case side1 => first | exact hT | ((repeat (with_reducible first | exact hT | apply Tabs.drewN | apply Tabs.drew)); done) | exact Tabs.below hT (by repeat (first | (with_reducible first | exact HB.out | apply below_alloc | apply pw_below_drewN | apply below_drew1) | exact HB.out))); rintro e w8 ⟨rfl, hb⟩; have n0_ := Aside0.mk (below_step (by repeat (first | (with_reducible first | exact HB.out | apply below_alloc | apply pw_below_drewN | apply below_drew1) | exact HB.out)) hb); clear HB; have HB := n0_; clear n0_; (try clear hb); (try clear hb2); (try clear hk); (try clear hi)))
      repeat (go_quiet (first | (go_at_call 8; (with_reducible refine (decklelaw12_small.calls k  t280 _ ?side1 A4.out).mono ?_); (case side1 => first | exact hT | ((repeat (with_reducible first | exact hT | apply Tabs.drewN | apply Tabs.drew)); done) | exact Tabs.below hT (by repeat (first | (with_reducible first | exact HB.out | apply below_alloc | apply pw_below_drewN | apply below_drew1) | exact HB.out))); rintro e w8 ⟨rfl, hb⟩; have n0_ := Aside0.mk (below_step (by repeat (first | (with_reducible first | exact HB.out | apply below_alloc | apply pw_below_drewN | apply below_drew1) | exact HB.out)) hb); clear HB; have HB := n0_; clear n0_; (try clear hb); (try clear hb2); (try clear hk); (try clear hi))); try go_wp2_with (first | (go_at_call 8; (with_reducible refine (decklelaw12_small.calls k  t280 _ ?side1 A4.out).mono ?_); (case side1 => first | exact hT | ((repeat (with_reducible first | exact hT | apply Tabs.drewN | apply Tabs.drew)); done) | exact Tabs.below hT (by repeat (first | (with_reducible first | exact HB.out | apply below_alloc | apply pw_below_drewN | apply below_drew1) | exact HB.out))); rintro e w8 ⟨rfl, hb⟩; have n0_ := Aside0.mk (below_step (by repeat (first | (with_reducible first | exact HB.out | apply below_alloc | apply pw_below_drewN | apply below_drew1) | exact HB.out)) hb); clear HB; have HB := n0_; clear n0_; (try clear hb); (try clear hb2); (try clear hk); (try clear hi))))
      go_ret
      exact ⟨by first | rfl | (simp [errW_none, errW_some] <;> rfl) | (simp [*, errW_none, errW_some] <;> rfl) | (simp [errW_none, errW_some, bne_nil_, beq_nil_]; done) | (simp [*, errW_none, errW_some, bne_nil_, beq_nil_]; done), by repeat (first | (with_reducible first | exact HB.out | apply below_alloc | apply pw_below_drewN | apply below_drew1) | exact HB.out)⟩
    · rw [if_neg c7] at H
      have c7b0 : decide (100 < (l1.length : Int)) = false := decide_eq_false c7
      have c7b1 : decide (100 < l1.length) = false := decide_eq_false (by omega)
      clear c7
      by_cases c9 : (a2.size : Int) > 500
      · rw [if_pos c9] at H
        have c9b0 : decide (500 < (a2.size : Int)) = true := decide_eq_true c9
        have c9b1 : decide (500 < a2.size) = true := decide_eq_true (by omega)
        clear c9
        clear hr
        obtain rfl := Option.some.inj H
        go_enter Tryd.func3, Tryd.ntmps3
        go_wp2_with (first | (go_at_call 8; (with_reducible refine (decklelaw12_small.calls k  t280 _ ?side1 A4.out).mono ?_); (case side1 => first | exact hT | ((repeat (with_reducible first | exact hT | apply Tabs.drewN | apply Tabs.drew)); done) | exact Tabs.below hT (by repeat (first | (with_reducible first | exact HB.out | apply below_alloc | apply pw_below_drewN | apply below_drew1) | exact HB.out))); rintro e w10 ⟨rfl, hb⟩; have n0_ := Aside0.mk (below_step (by repeat (first | (with_reducible first | exact HB.out | apply below_alloc | apply pw_below_drewN | apply below_drew1) | exact HB.out)) hb); clear HB; have HB := n0_; clear n0_; (try clear hb); (try clear hb2); (try clear hk); (try clear hi)))
        repeat (go_quiet (first | (go_at_call 8; (with_reducible refine (decklelaw12_small.calls k  t280 _ ?side1 A4.out).mono ?_); (case side1 => first | exact hT | ((repeat (with_reducible first | exact hT | apply Tabs.drewN | apply Tabs.drew)); done) | exact Tabs.below hT (by repeat (first | (with_reducible first | exact HB.out | apply below_alloc | apply pw_below_drewN | apply below_drew1) | exact HB.out))); rintro e w10 ⟨rfl, hb⟩; have n0_ := Aside0.mk (below_step (by repeat (first | (with_reducible first | exact HB.out | apply below_alloc | apply pw_below_drewN | apply below_drew1) | exact HB.out)) hb); clear HB; have HB := n0_; clear n0_; (try clear hb); (try clear hb2); (try clear hk); (try clear hi))); try go_wp2_with (first | (go_at_call 8; (with_reducible refine (decklelaw12_small.calls k  t280 _ ?side1 A4.out).mono ?_); (case side1 => first | exact hT | ((repeat (with_reducible first | exact hT | apply Tabs.drewN | apply Tabs.drew)); done) | exact Tabs.below hT (by repeat (first | (with_reducible first | exact HB.out | apply below_alloc | apply pw_below_drewN | apply below_drew1) | exact HB.out))); rintro e w10 ⟨rfl, hb⟩; have n0_ := Aside0.mk (below_step (by repeat (first | (with_reducible first | exact HB.out | apply below_alloc | apply pw_below_drewN | apply below_drew1) | exact HB.out)) hb); clear HB; have HB := n0_; clear n0_; (try clear hb); (try clear hb2); (try clear hk); (try clear hi))))
        go_ret
        exact ⟨by first | rfl | (simp [errW_none, errW_some] <;> rfl) | (simp [*, errW_none, errW_some] <;> rfl) | (simp [errW_none, errW_some, bne_nil_, beq_nil_]; done) | (simp [*, errW_none, errW_some, bne_nil_, beq_nil_]; done), by repeat (first | (with_reducible first | exact HB.out | apply below_alloc | apply pw_below_drewN | apply below_drew1) | exact HB.out)⟩
      · rw [if_neg c9] at H
        have c9b0 : decide (500 < (a2.size : Int)) = false := decide_eq_false c9
        have c9b1 : decide (500 < a2.size) = false := decide_eq_false (by omega)
        clear c9
        replace H := Option.bind_eq_some_iff.mp H
        obtain ⟨⟨t281, t282, t283⟩, A110, H⟩ := H
        try dsimp only at H
        have A11 := Aside0.mk A110; clear A110
        replace H := Option.bind_eq_some_iff.mp H
        obtain ⟨⟨t286, t287, t288⟩, A120, H⟩ := H
        try dsimp only at H
        have A12 := Aside0.mk A120; clear A120
        by_cases c13 : (t281.length : Int) = (t286.length : Int)
        · rw [if_pos c13] at H
          have c13b0 : ((t281.length : Int) == (t286.length : Int)) = true := beq_iff_eq.mpr c13
          have c13b1 : ((t281.length : Int) != (t286.length : Int)) = false := bne_eq_false_iff_eq.mpr c13
          have c13b2 : (t281.length == t286.length) = true := by first | simpa using c13 | (simp at c13 ⊢; omega)
          clear c13
          have H' := Aside0.mk H
          clear H
          go_enter Tryd.func3, Tryd.ntmps3
          go_wp2_with (first | (go_at_call 8; (with_reducible refine (decklelaw12_small.calls k  t280 _ ?side1 A4.out).mono ?_); (case side1 => first | exact hT | ((repeat (with_reducible first | exact hT | apply Tabs.drewN | apply Tabs.drew)); done) | exact Tabs.below hT (by repeat (first | (with_reducible first | exact HB.out | apply below_alloc | apply pw_below_drewN | apply below_drew1) | exact HB.out))); rintro e w14 ⟨rfl, hb⟩; have n0_ := Aside0.mk (below_step (by repeat (first | (with_reducible first | exact HB.out | apply below_alloc | apply pw_below_drewN | apply below_drew1) | exact HB.out)) hb); clear HB; have HB := n0_; clear n0_; (try clear hb); (try clear hb2); (try clear hk); (try clear hi)) | (go_at_call 9; (with_reducible refine (number_Read.calls k a2 t281 t282 t283 _ ?side1 A11.out).mono ?_); (case side1 => first | exact hT | ((repeat (with_reducible first | exact hT | apply Tabs.drewN | apply Tabs.drew)); done) | exact Tabs.below hT (by repeat (first | (with_reducible first | exact HB.out | apply below_alloc | apply pw_below_drewN | apply below_drew1) | exact HB.out))); rintro e w15 ⟨v284, rfl, ho0, hb⟩; have n0_ := Aside0.mk (Kd.R_lower ho0 (below_size (by repeat (first | (with_reducible first | exact HB.out | apply below_alloc | apply pw_below_drewN | apply below_drew1) | exact HB.out)))); have n1_ := Aside0.mk (below_step (by repeat (first | (with_reducible first | exact HB.out | apply below_alloc | apply pw_below_drewN | apply below_drew1) | exact HB.out)) hb); clear HB; have HO285 := n0_; have HB := n1_; clear n0_ n1_; (try clear hb); (try clear hb2); (try clear hk); (try clear hi); (try clear ho0)) | (go_at_call 10; (with_reducible refine (deckleref12_Read.calls k a2 t286 t287 t288 _ ?side1 A12.out).mono ?_); (case side1 => first | exact hT | ((repeat (with_reducible first | exact hT | apply Tabs.drewN | apply Tabs.drew)); done) | exact Tabs.below hT (by repeat (first | (with_reducible first | exact HB.out | apply below_alloc | apply pw_below_drewN | apply below_drew1) | exact HB.out))); rintro e w16 ⟨v289, rfl, ho0, hb⟩; have n0_ := Aside0.mk (Kd.R_elder' (by (with_reducible repeat (first | apply Kd.R_alloc | apply Kd.R_drewN | apply Kd.R_drew)); exact HO285.out) (Kd.R_base ho0) hb); have n1_ := Aside0.mk (Kd.R_lower (Kd.R_new' ho0 (Kd.R_lt (by (with_reducible repeat (first | apply Kd.R_alloc | apply Kd.R_drewN | apply Kd.R_drew)); exact HO285.out))) (below_size (by repeat (first | (with_reducible first | exact HB.out | apply below_alloc | apply pw_below_drewN | apply below_drew1) | exact HB.out)))); have n2_ := Aside0.mk (below_step (by repeat (first | (with_reducible first | exact HB.out | apply below_alloc | apply pw_below_drewN | apply below_drew1) | exact HB.out)) hb); clear HO285; clear HB; have HO285 := n0_; have HO290 := n1_; have HB := n2_; clear n0_ n1_ n2_; (try clear hb); (try clear hb2); (try clear hk); (try clear hi); (try clear ho0); obtain ⟨Ao17, co17, eo17⟩ := Kd.R_slice HO285.out; subst eo17; obtain ⟨Ao18, co18, eo18⟩ := Kd.R_slice HO290.out; subst eo18))
          repeat (go_quiet (first | (go_at_call 8; (with_reducible refine (decklelaw12_small.calls k  t280 _ ?side1 A4.out).mono ?_); (case side1 => first | exact hT | ((repeat (with_reducible first | exact hT | apply Tabs.drewN | apply Tabs.drew)); done) | exact Tabs.below hT (by repeat (first | (with_reducible first | exact HB.out | apply below_alloc | apply pw_below_drewN | apply below_drew1) | exact HB.out))); rintro e w14 ⟨rfl, hb⟩; have n0_ := Aside0.mk (below_step (by repeat (first | (with_reducible first | exact HB.out | apply below_alloc | apply pw_below_drewN | apply below_drew1) | exact HB.out)) hb); clear HB; have HB := n0_; clear n0_; (try clear hb); (try clear hb2); (try clear hk); (try clear hi)) | (go_at_call 9; (with_reducible refine (number_Read.calls k a2 t281 t282 t283 _ ?side1 A11.out).mono ?_); (case side1 => first | exact hT | ((repeat (with_reducible first | exact hT | apply Tabs.drewN | apply Tabs.drew)); done) | exact Tabs.below hT (by repeat (first | (with_reducible first | exact HB.out | apply below_alloc | apply pw_below_drewN | apply below_drew1) | exact HB.out))); rintro e w15 ⟨v284, rfl, ho0, hb⟩; have n0_ := Aside0.mk (Kd.R_lower ho0 (below_size (by repeat (first | (with_reducible first | exact HB.out | apply below_alloc | apply pw_below_drewN | apply below_drew1) | exact HB.out)))); have n1_ := Aside0.mk (below_step (by repeat (first | (with_reducible first | exact HB.out | apply below_alloc | apply pw_below_drewN | apply below_drew1) | exact HB.out)) hb); clear HB; have HO285 := n0_; have HB := n1_; clear n0_ n1_; (try clear hb); (try clear hb2); (try clear hk); (try clear hi); (try clear ho0)) | (go_at_call 10; (with_reducible refine (deckleref12_Read.calls k a2 t286 t287 t288 _ ?side1 A12.out).mono ?_); (case side1 => first | exact hT | ((repeat (with_reducible first | exact hT | apply Tabs.drewN | apply Tabs.drew)); done) | exact Tabs.below hT (by repeat (first | (with_reducible first | exact HB.out | apply below_alloc | apply pw_below_drewN | apply below_drew1) | exact HB.out))); rintro e w16 ⟨v289, rfl, ho0, hb⟩; have n0_ := Aside0.mk (Kd.R_elder' (by (with_reducible repeat (first | apply Kd.R_alloc | apply Kd.R_drewN | apply Kd.R_drew)); exact HO285.out) (Kd.R_base ho0) hb); have n1_ := Aside0.mk (Kd.R_lower (Kd.R_new' ho0 (Kd.R_lt (by (with_reducible repeat (first | apply Kd.R_alloc | apply Kd.R_drewN | apply Kd.R_drew)); exact HO285.out))) (below_size (by repeat (first | (with_reducible first | exact HB.out | apply below_alloc | apply pw_below_drewN | apply below_drew1) | exact HB.out)))); have n2_ := Aside0.mk (below_step (by repeat (first | (with_reducible first | exact HB.out | apply below_alloc | apply pw_below_drewN | apply below_drew1) | exact HB.out)) hb); clear HO285; clear HB; have HO285 := n0_; have HO290 := n1_; have HB := n2_; clear n0_ n1_ n2_; (try clear hb); (try clear hb2); (try clear hk); (try clear hi); (try clear ho0); obtain ⟨Ao17, co17, eo17⟩ := Kd.R_slice HO285.out; subst eo17; obtain ⟨Ao18, co18, eo18⟩ := Kd.R_slice HO290.out; subst eo18)); try go_wp2_with (first | (go_at_call 8; (with_reducible refine (decklelaw12_small.calls k  t280 _ ?side1 A4.out).mono ?_); (case side1 => first | exact hT | ((repeat (with_reducible first | exact hT | apply Tabs.drewN | apply Tabs.drew)); done) | exact Tabs.below hT (by repeat (first | (with_reducible first | exact HB.out | apply below_alloc | apply pw_below_drewN | apply below_drew1) | exact HB.out))); rintro e w14 ⟨rfl, hb⟩; have n0_ := Aside0.mk (below_step (by repeat (first | (with_reducible first | exact HB.out | apply below_alloc | apply pw_below_drewN | apply below_drew1) | exact HB.out)) hb); clear HB; have HB := n0_; clear n0_; (try clear hb); (try clear hb2); (try clear hk); (try clear hi)) | (go_at_call 9; (with_reducible refine (number_Read.calls k a2 t281 t282 t283 _ ?side1 A11.out).mono ?_); (case side1 => first | exact hT | ((repeat (with_reducible first | exact hT | apply Tabs.drewN | apply Tabs.drew)); done) | exact Tabs.below hT (by repeat (first | (with_reducible first | exact HB.out | apply below_alloc | apply pw_below_drewN | apply below_drew1) | exact HB.out))); rintro e w15 ⟨v284, rfl, ho0, hb⟩; have n0_ := Aside0.mk (Kd.R_lower ho0 (below_size (by repeat (first | (with_reducible first | exact HB.out | apply below_alloc | apply pw_below_drewN | apply below_drew1) | exact HB.out)))); have n1_ := Aside0.mk (below_step (by repeat (first | (with_reducible first | exact HB.out | apply below_alloc | apply pw_below_drewN | apply below_drew1) | exact HB.out)) hb); clear HB; have HO285 := n0_; have HB := n1_; clear n0_ n1_; (try clear hb); (try clear hb2); (try clear hk); (try clear hi); (try clear ho0)) | (go_at_call 10; (with_reducible refine (deckleref12_Read.calls k a2 t286 t287 t288 _ ?side1 A12.out).mono ?_); (case side1 => first | exact hT | ((repeat (with_reducible first | exact hT | apply Tabs.drewN | apply Tabs.drew)); done) | exact Tabs.below hT (by repeat (first | (with_reducible first | exact HB.out | apply below_alloc | apply pw_below_drewN | apply below_drew1) | exact HB.out))); rintro e w16 ⟨v289, rfl, ho0, hb⟩; have n0_ := Aside0.mk (Kd.R_elder' (by (with_reducible repeat (first | apply Kd.R_alloc | apply Kd.R_drewN | apply Kd.R_drew)); exact HO285.out) (Kd.R_base ho0) hb); have n1_ := Aside0.mk (Kd.R_lower (Kd.R_new' ho0 (Kd.R_lt (by (with_reducible repeat (first | apply Kd.R_alloc | apply Kd.R_drewN | apply Kd.R_drew)); exact HO285.out))) (below_size (by repeat (first | (with_reducible first | exact HB.out | apply below_alloc | apply pw_below_drewN | apply below_drew1) | exact HB.out)))); have n2_ := Aside0.mk (below_step (by repeat (first | (with_reducible first | exact HB.out | apply below_alloc | apply pw_below_drewN | apply below_drew1) | exact HB.out)) hb); clear HO285; clear HB; have HO285 := n0_; have HO290 := n1_; have HB := n2_; clear n0_ n1_ n2_; (try clear hb); (try clear hb2); (try clear hk); (try clear hi); (try clear ho0); obtain ⟨Ao17, co17, eo17⟩ := Kd.R_slice HO285.out; subst eo17; obtain ⟨Ao18, co18, eo18⟩ := Kd.R_slice HO290.out; subst eo18)))
          go_loopg [14] k (fun kq v14 w' => ∃ (x14_1 : Int), v14 = .int .i64 x14_1 ∧ Aside0 (decklelaw12_NumberTells_t.l0 kq l0 l1 t280 t281 t282 t283 t286 t287 t288 x14_1 = some r) ∧ Aside0 (kq ≤ k) ∧ Aside0 (Kd.R k28 28 w' w.heap.size (fun k_ => some k_ ≠ ((.slice Ao18 t286.length co18) : Value).ownBlock) (.slice Ao17 t281.length co17) t281) ∧ Aside0 (Kd.R k28 28 w' w.heap.size (fun k_ => some k_ ≠ ((.slice Ao17 t281.length co17) : Value).ownBlock) (.slice Ao18 t286.length co18) t286) ∧ Aside0 (Below w.heap.size w w'))
          case atStart => exact ⟨(0), (by first | rfl | (simp; done) | (simp [*]; done)), H', ⟨Nat.le_refl _⟩, ⟨by (with_reducible repeat (first | apply Kd.R_alloc | apply Kd.R_drewN | apply Kd.R_drew)); exact Kd.R_mono HO285.out (fun _ hk => hk.2)⟩, ⟨by (with_reducible repeat (first | apply Kd.R_alloc | apply Kd.R_drewN | apply Kd.R_drew)); exact Kd.R_mono HO290.out (fun _ hk => hk.2)⟩, ⟨by repeat (first | (with_reducible first | exact HB.out | apply below_alloc | apply pw_below_drewN | apply below_drew1) | exact HB.out)⟩⟩
          case round =>
            clear H'
            try clear c1
            try clear p2
            try clear c3
            try clear c5
            try clear c5b0
            try clear c5b1
            try clear c7
            try clear c7b0
            try clear c7b1
            try clear c9
            try clear c9b0
            try clear c9b1
            try clear c13
            try clear c13b0
            try clear c13b1
            try clear c13b2
            obtain ⟨x14_1, rfl, HA, HK1, HO_8, HO_11, HB⟩ := hrel
            cases gk with
            | zero => exact absurd HA.out (by simp [decklelaw12_NumberTells_t.l0])
            | succ k1 =>
              have H := HA.out
              clear HA
              simp only [decklelaw12_NumberTells_t.l0] at H
              by_cases c19 : x14_1 < (t281.length : Int)
              · rw [if_pos c19] at H
                have c19b0 : decide (x14_1 < (t281.length : Int)) = true := decide_eq_true c19
                clear c19
                by_cases c20 : 0 ≤ x14_1
                · rw [if_pos c20] at H
                  have c20b0 : decide (0 ≤ x14_1) = true := decide_eq_true c20
                  clear c20
                  by_cases c21 : x14_1 < (t286.length : Int)
                  · rw [if_pos c21] at H
                    have c21b0 : decide (x14_1 < (t286.length : Int)) = true := decide_eq_true c21
                    clear c21
                    by_cases c22 : (!(((rd_T28 t281 x14_1).f0) == ((rd_T28 t286 x14_1).f0)) || (!(((rd_T28 t281 x14_1).f1) == ((rd_T28 t286 x14_1).f1)))) = true
                    · rw [if_pos c22] at H
                      have c22b0 : (!(((rd_T28 t281 x14_1).f0) == ((rd_T28 t286 x14_1).f0)) || (!(((rd_T28 t281 x14_1).f1) == ((rd_T28 t286 x14_1).f1)))) = true := c22
                      clear c22
                      exact absurd (Option.some.inj H) (by rw [hr]; decide)
                    · rw [if_neg c22] at H
                      have c22b0 : (!(((rd_T28 t281 x14_1).f0) == ((rd_T28 t286 x14_1).f0)) || (!(((rd_T28 t281 x14_1).f1) == ((rd_T28 t286 x14_1).f1)))) = false := by simpa using c22
                      clear c22
                      have H' := Aside0.mk H
                      clear H
                      have p291 : 0 ≤ (x14_1 : Int) := of_decide_eq_true (by first | (with_reducible assumption) | assumption)
                      have q291 : x14_1 < (t281.length : Int) := of_decide_eq_true (by first | (with_reducible assumption) | assumption)
                      obtain ⟨ad291, e291, hx291_0, hx291_1⟩ := at_T28 (Kd.R_reads' HO_8.out).2.2 x14_1 p291 q291
                      cases e291
                      replace p291 := eq_true p291
                      replace q291 := eq_true q291
                      have p292 : 0 ≤ (x14_1 : Int) := of_decide_eq_true (by first | (with_reducible assumption) | assumption)
                      have q292 : x14_1 < (t286.length : Int) := of_decide_eq_true (by first | (with_reducible assumption) | assumption)
                      obtain ⟨ad292, e292, hx292_0, hx292_1⟩ := at_T28 (Kd.R_reads' HO_11.out).2.2 x14_1 p292 q292
                      cases e292
                      replace p292 := eq_true p292
                      replace q292 := eq_true q292
                      go_wp2
                      repeat (go_quiet (fail); try go_wp2)
                      go_roundg k1
                      case measure => have := HK1.out; omega
                      case rel => exact ⟨(wrap64 (x14_1 + 1)), (by first | rfl | (simp; done) | (simp [*]; done)), H', ⟨by have := HK1.out; omega⟩, ⟨by (with_reducible repeat (first | apply Kd.R_alloc | apply Kd.R_drewN | apply Kd.R_drew)); exact HO_8.out⟩, ⟨by (with_reducible repeat (first | apply Kd.R_alloc | apply Kd.R_drewN | apply Kd.R_drew)); exact HO_11.out⟩, ⟨by repeat (first | (with_reducible first | exact HB.out | apply below_alloc | apply pw_below_drewN | apply below_drew1) | exact HB.out)⟩⟩
                  · rw [if_neg c21] at H
                    exact absurd H (by simp)
                · rw [if_neg c20] at H
                  exact absurd H (by simp)
              · rw [if_neg c19] at H
                have c19b0 : decide (x14_1 < (t281.length : Int)) = false := decide_eq_false c19
                clear c19
                by_cases c23 : t280 = true
                · subst c23
                  rw [if_pos rfl] at H
                  by_cases c24 : t282.toList = t287.toList
                  · rw [if_pos c24] at H
                    have c24b0 : (t282.toList == t287.toList) = true := beq_iff_eq.mpr c24
                    have c24b1 : (t282.toList != t287.toList) = false := bne_eq_false_iff_eq.mpr c24
                    clear c24
                    by_cases c25 : (t283 == t288) = true
                    · rw [if_pos c25] at H
                      have c25b0 : (t283 == t288) = true := c25
                      (try (have c25b1 : decide (t283 = t288) = true := by simpa using c25))
                      (try (have c25b2 : (t283 == t288) = true := by simpa using c25))
                      clear c25
                      replace H := Option.bind_eq_some_iff.mp H
                      obtain ⟨t293, A260, H⟩ := H
                      have A26 := Aside0.mk A260; clear A260
                      replace H := Option.bind_eq_some_iff.mp H
                      obtain ⟨t294, A270, H⟩ := H
                      have A27 := Aside0.mk A270; clear A270
                      by_cases c28 : t293.toList = t294.toList
                      · rw [if_pos c28] at H
                        have c28b0 : (t293.toList == t294.toList) = true := beq_iff_eq.mpr c28
                        have c28b1 : (t293.toList != t294.toList) = false := bne_eq_false_iff_eq.mpr c28
                        clear c28
                        replace H := Option.bind_eq_some_iff.mp H
                        obtain ⟨t295, A290, H⟩ := H
                        have A29 := Aside0.mk A290; clear A290
                        replace H := Option.bind_eq_some_iff.mp H
                        obtain ⟨t296, A300, H⟩ := H
                        have A30 := Aside0.mk A300; clear A300
                        clear hr
                        obtain rfl := Option.some.inj H
                        go_wp2_with (first | (go_at_call 11; (with_reducible refine (number_Ints.calls k1 _ _ l0 t293 _ ?side1 ?side2 ?side3 A26.out).mono ?_); (case side1 => first | exact hT | ((repeat (with_reducible first | exact hT | apply Tabs.drewN | apply Tabs.drew)); done) | exact Tabs.below hT (by repeat (first | (with_reducible first | exact HB.out | apply below_alloc | apply pw_below_drewN | apply below_drew1) | exact HB.out))); (case side2 => repeat (first | exact (Kd.C_below HR0.out HB.out) | (with_reducible refine Kd.C_alloc ?_ _) | (with_reducible refine Kd.C_drewN ?_ _) | (with_reducible refine Kd.C_drew ?_))); (case side3 => exact HC0.out); rintro e w31 ⟨rfl, hb⟩; have n0_ := Aside0.mk (Kd.R_below (by (with_reducible repeat (first | apply Kd.R_alloc | apply Kd.R_drewN | apply Kd.R_drew)); exact HO_8.out) hb); have n1_ := Aside0.mk (Kd.R_below (by (with_reducible repeat (first | apply Kd.R_alloc | apply Kd.R_drewN | apply Kd.R_drew)); exact HO_11.out) hb); have n2_ := Aside0.mk (below_step (by repeat (first | (with_reducible first | exact HB.out | apply below_alloc | apply pw_below_drewN | apply below_drew1) | exact HB.out)) hb); clear HO_8; clear HO_11; clear HB; have HO_8 := n0_; have HO_11 := n1_; have HB := n2_; clear n0_ n1_ n2_; (try clear hb); (try clear hb2); (try clear hk); (try clear hi)) | (go_at_call 12; (with_reducible refine (deckleref12_Ints.calls k1 _ _ l0 t294 _ ?side1 ?side2 ?side3 A27.out).mono ?_); (case side1 => first | exact hT | ((repeat (with_reducible first | exact hT | apply Tabs.drewN | apply Tabs.drew)); done) | exact Tabs.below hT (by repeat (first | (with_reducible first | exact HB.out | apply below_alloc | apply pw_below_drewN | apply below_drew1) | exact HB.out))); (case side2 => repeat (first | exact (Kd.C_below HR0.out HB.out) | (with_reducible refine Kd.C_alloc ?_ _) | (with_reducible refine Kd.C_drewN ?_ _) | (with_reducible refine Kd.C_drew ?_))); (case side3 => exact HC0.out); rintro e w32 ⟨rfl, hb⟩; have n0_ := Aside0.mk (Kd.R_below (by (with_reducible repeat (first | apply Kd.R_alloc | apply Kd.R_drewN | apply Kd.R_drew)); exact HO_8.out) hb); have n1_ := Aside0.mk (Kd.R_below (by (with_reducible repeat (first | apply Kd.R_alloc | apply Kd.R_drewN | apply Kd.R_drew)); exact HO_11.out) hb); have n2_ := Aside0.mk (below_step (by repeat (first | (with_reducible first | exact HB.out | apply below_alloc | apply pw_below_drewN | apply below_drew1) | exact HB.out)) hb); clear HO_8; clear HO_11; clear HB; have HO_8 := n0_; have HO_11 := n1_; have HB := n2_; clear n0_ n1_ n2_; (try clear hb); (try clear hb2); (try clear hk); (try clear hi)) | (go_at_call 13; (with_reducible refine (number_Decs.calls k1 _ _ l1 t295 _ ?side1 ?side2 ?side3 A29.out).mono ?_); (case side1 => first | exact hT | ((repeat (with_reducible first | exact hT | apply Tabs.drewN | apply Tabs.drew)); done) | exact Tabs.below hT (by repeat (first | (with_reducible first | exact HB.out | apply below_alloc | apply pw_below_drewN | apply below_drew1) | exact HB.out))); (case side2 => repeat (first | exact (Kd.C_below HR1.out HB.out) | (with_reducible refine Kd.C_alloc ?_ _) | (with_reducible refine Kd.C_drewN ?_ _) | (with_reducible refine Kd.C_drew ?_))); (case side3 => exact HC1.out); rintro e w33 ⟨rfl, hb⟩; have n0_ := Aside0.mk (Kd.R_below (by (with_reducible repeat (first | apply Kd.R_alloc | apply Kd.R_drewN | apply Kd.R_drew)); exact HO_8.out) hb); have n1_ := Aside0.mk (Kd.R_below (by (with_reducible repeat (first | apply Kd.R_alloc | apply Kd.R_drewN | apply Kd.R_drew)); exact HO_11.out) hb); have n2_ := Aside0.mk (below_step (by repeat (first | (with_reducible first | exact HB.out | apply below_alloc | apply pw_below_drewN | apply below_drew1) | exact HB.out)) hb); clear HO_8; clear HO_11; clear HB; have HO_8 := n0_; have HO_11 := n1_; have HB := n2_; clear n0_ n1_ n2_; (try clear hb); (try clear hb2); (try clear hk); (try clear hi)) | (go_at_call 14; (with_reducible refine (deckleref12_Decs.calls k1 _ _ l1 t296 _ ?side1 ?side2 ?side3 A30.out).mono ?_); (case side1 => first | exact hT | ((repeat (with_reducible first | exact hT | apply Tabs.drewN | apply Tabs.drew)); done) | exact Tabs.below hT (by repeat (first | (with_reducible first | exact HB.out | apply below_alloc | apply pw_below_drewN | apply below_drew1) | exact HB.out))); (case side2 => repeat (first | exact (Kd.C_below HR1.out HB.out) | (with_reducible refine Kd.C_alloc ?_ _) | (with_reducible refine Kd.C_drewN ?_ _) | (with_reducible refine Kd.C_drew ?_))); (case side3 => exact HC1.out); rintro e w34 ⟨rfl, hb⟩; have n0_ := Aside0.mk (Kd.R_below (by (with_reducible repeat (first | apply Kd.R_alloc | apply Kd.R_drewN | apply Kd.R_drew)); exact HO_8.out) hb); have n1_ := Aside0.mk (Kd.R_below (by (with_reducible repeat (first | apply Kd.R_alloc | apply Kd.R_drewN | apply Kd.R_drew)); exact HO_11.out) hb); have n2_ := Aside0.mk (below_step (by repeat (first | (with_reducible first | exact HB.out | apply below_alloc | apply pw_below_drewN | apply below_drew1) | exact HB.out)) hb); clear HO_8; clear HO_11; clear HB; have HO_8 := n0_; have HO_11 := n1_; have HB := n2_; clear n0_ n1_ n2_; (try clear hb); (try clear hb2); (try clear hk); (try clear hi)))
                        repeat (go_quiet (first | (go_at_call 11; (with_reducible refine (number_Ints.calls k1 _ _ l0 t293 _ ?side1 ?side2 ?side3 A26.out).mono ?_); (case side1 => first | exact hT | ((repeat (with_reducible first | exact hT | apply Tabs.drewN | apply Tabs.drew)); done) | exact Tabs.below hT (by repeat (first | (with_reducible first | exact HB.out | apply below_alloc | apply pw_below_drewN | apply below_drew1) | exact HB.out))); (case side2 => repeat (first | exact (Kd.C_below HR0.out HB.out) | (with_reducible refine Kd.C_alloc ?_ _) | (with_reducible refine Kd.C_drewN ?_ _) | (with_reducible refine Kd.C_drew ?_))); (case side3 => exact HC0.out); rintro e w31 ⟨rfl, hb⟩; have n0_ := Aside0.mk (Kd.R_below (by (with_reducible repeat (first | apply Kd.R_alloc | apply Kd.R_drewN | apply Kd.R_drew)); exact HO_8.out) hb); have n1_ := Aside0.mk (Kd.R_below (by (with_reducible repeat (first | apply Kd.R_alloc | apply Kd.R_drewN | apply Kd.R_drew)); exact HO_11.out) hb); have n2_ := Aside0.mk (below_step (by repeat (first | (with_reducible first | exact HB.out | apply below_alloc | apply pw_below_drewN | apply below_drew1) | exact HB.out)) hb); clear HO_8; clear HO_11; clear HB; have HO_8 := n0_; have HO_11 := n1_; have HB := n2_; clear n0_ n1_ n2_; (try clear hb); (try clear hb2); (try clear hk); (try clear hi)) | (go_at_call 12; (with_reducible refine (deckleref12_Ints.calls k1 _ _ l0 t294 _ ?side1 ?side2 ?side3 A27.out).mono ?_); (case side1 => first | exact hT | ((repeat (with_reducible first | exact hT | apply Tabs.drewN | apply Tabs.drew)); done) | exact Tabs.below hT (by repeat (first | (with_reducible first | exact HB.out | apply below_alloc | apply pw_below_drewN | apply below_drew1) | exact HB.out))); (case side2 => repeat (first | exact (Kd.C_below HR0.out HB.out) | (with_reducible refine Kd.C_alloc ?_ _) | (with_reducible refine Kd.C_drewN ?_ _) | (with_reducible refine Kd.C_drew ?_))); (case side3 => exact HC0.out); rintro e w32 ⟨rfl, hb⟩; have n0_ := Aside0.mk (Kd.R_below (by (with_reducible repeat (first | apply Kd.R_alloc | apply Kd.R_drewN | apply Kd.R_drew)); exact HO_8.out) hb); have n1_ := Aside0.mk (Kd.R_below (by (with_reducible repeat (first | apply Kd.R_alloc | apply Kd.R_drewN | apply Kd.R_drew)); exact HO_11.out) hb); have n2_ := Aside0.mk (below_step (by repeat (first | (with_reducible first | exact HB.out | apply below_alloc | apply pw_below_drewN | apply below_drew1) | exact HB.out)) hb); clear HO_8; clear HO_11; clear HB; have HO_8 := n0_; have HO_11 := n1_; have HB := n2_; clear n0_ n1_ n2_; (try clear hb); (try clear hb2); (try clear hk); (try clear hi)) | (go_at_call 13; (with_reducible refine (number_Decs.calls k1 _ _ l1 t295 _ ?side1 ?side2 ?side3 A29.out).mono ?_); (case side1 => first | exact hT | ((repeat (with_reducible first | exact hT | apply Tabs.drewN | apply Tabs.drew)); done) | exact Tabs.below hT (by repeat (first | (with_reducible first | exact HB.out | apply below_alloc | apply pw_below_drewN | apply below_drew1) | exact HB.out))); (case side2 => repeat (first | exact (Kd.C_below HR1.out HB.out) | (with_reducible refine Kd.C_alloc ?_ _) | (with_reducible refine Kd.C_drewN ?_ _) | (with_reducible refine Kd.C_drew ?_))); (case side3 => exact HC1.out); rintro e w33 ⟨rfl, hb⟩; have n0_ := Aside0.mk (Kd.R_below (by (with_reducible repeat (first | apply Kd.R_alloc | apply Kd.R_drewN | apply Kd.R_drew)); exact HO_8.out) hb); have n1_ := Aside0.mk (Kd.R_below (by (with_reducible repeat (first | apply Kd.R_alloc | apply Kd.R_drewN | apply Kd.R_drew)); exact HO_11.out) hb); have n2_ := Aside0.mk (below_step (by repeat (first | (with_reducible first | exact HB.out | apply below_alloc | apply pw_below_drewN | apply below_drew1) | exact HB.out)) hb); clear HO_8; clear HO_11; clear HB; have HO_8 := n0_; have HO_11 := n1_; have HB := n2_; clear n0_ n1_ n2_; (try clear hb); (try clear hb2); (try clear hk); (try clear hi)) | (go_at_call 14; (with_reducible refine (deckleref12_Decs.calls k1 _ _ l1 t296 _ ?side1 ?side2 ?side3 A30.out).mono ?_); (case side1 => first | exact hT | ((repeat (with_reducible first | exact hT | apply Tabs.drewN | apply Tabs.drew)); done) | exact Tabs.below hT (by repeat (first | (with_reducible first | exact HB.out | apply below_alloc | apply pw_below_drewN | apply below_drew1) | exact HB.out))); (case side2 => repeat (first | exact (Kd.C_below HR1.out HB.out) | (with_reducible refine Kd.C_alloc ?_ _) | (with_reducible refine Kd.C_drewN ?_ _) | (with_reducible refine Kd.C_drew ?_))); (case side3 => exact HC1.out); rintro e w34 ⟨rfl, hb⟩; have n0_ := Aside0.mk (Kd.R_below (by (with_reducible repeat (first | apply Kd.R_alloc | apply Kd.R_drewN | apply Kd.R_drew)); exact HO_8.out) hb); have n1_ := Aside0.mk (Kd.R_below (by (with_reducible repeat (first | apply Kd.R_alloc | apply Kd.R_drewN | apply Kd.R_drew)); exact HO_11.out) hb); have n2_ := Aside0.mk (below_step (by repeat (first | (with_reducible first | exact HB.out | apply below_alloc | apply pw_below_drewN | apply below_drew1) | exact HB.out)) hb); clear HO_8; clear HO_11; clear HB; have HO_8 := n0_; have HO_11 := n1_; have HB := n2_; clear n0_ n1_ n2_; (try clear hb); (try clear hb2); (try clear hk); (try clear hi))); try go_wp2_with (first | (go_at_call 11; (with_reducible refine (number_Ints.calls k1 _ _ l0 t293 _ ?side1 ?side2 ?side3 A26.out).mono ?_); (case side1 => first | exact hT | ((repeat (with_reducible first | exact hT | apply Tabs.drewN | apply Tabs.drew)); done) | exact Tabs.below hT (by repeat (first | (with_reducible first | exact HB.out | apply below_alloc | apply pw_below_drewN | apply below_drew1) | exact HB.out))); (case side2 => repeat (first | exact (Kd.C_below HR0.out HB.out) | (with_reducible refine Kd.C_alloc ?_ _) | (with_reducible refine Kd.C_drewN ?_ _) | (with_reducible refine Kd.C_drew ?_))); (case side3 => exact HC0.out); rintro e w31 ⟨rfl, hb⟩; have n0_ := Aside0.mk (Kd.R_below (by (with_reducible repeat (first | apply Kd.R_alloc | apply Kd.R_drewN | apply Kd.R_drew)); exact HO_8.out) hb); have n1_ := Aside0.mk (Kd.R_below (by (with_reducible repeat (first | apply Kd.R_alloc | apply Kd.R_drewN | apply Kd.R_drew)); exact HO_11.out) hb); have n2_ := Aside0.mk (below_step (by repeat (first | (with_reducible first | exact HB.out | apply below_alloc | apply pw_below_drewN | apply below_drew1) | exact HB.out)) hb); clear HO_8; clear HO_11; clear HB; have HO_8 := n0_; have HO_11 := n1_; have HB := n2_; clear n0_ n1_ n2_; (try clear hb); (try clear hb2); (try clear hk); (try clear hi)) | (go_at_call 12; (with_reducible refine (deckleref12_Ints.calls k1 _ _ l0 t294 _ ?side1 ?side2 ?side3 A27.out).mono ?_); (case side1 => first | exact hT | ((repeat (with_reducible first | exact hT | apply Tabs.drewN | apply Tabs.drew)); done) | exact Tabs.below hT (by repeat (first | (with_reducible first | exact HB.out | apply below_alloc | apply pw_below_drewN | apply below_drew1) | exact HB.out))); (case side2 => repeat (first | exact (Kd.C_below HR0.out HB.out) | (with_reducible refine Kd.C_alloc ?_ _) | (with_reducible refine Kd.C_drewN ?_ _) | (with_reducible refine Kd.C_drew ?_))); (case side3 => exact HC0.out); rintro e w32 ⟨rfl, hb⟩; have n0_ := Aside0.mk (Kd.R_below (by (with_reducible repeat (first | apply Kd.R_alloc | apply Kd.R_drewN | apply Kd.R_drew)); exact HO_8.out) hb); have n1_ := Aside0.mk (Kd.R_below (by (with_reducible repeat (first | apply Kd.R_alloc | apply Kd.R_drewN | apply Kd.R_drew)); exact HO_11.out) hb); have n2_ := Aside0.mk (below_step (by repeat (first | (with_reducible first | exact HB.out | apply below_alloc | apply pw_below_drewN | apply below_drew1) | exact HB.out)) hb); clear HO_8; clear HO_11; clear HB; have HO_8 := n0_; have HO_11 := n1_; have HB := n2_; clear n0_ n1_ n2_; (try clear hb); (try clear hb2); (try clear hk); (try clear hi)) | (go_at_call 13; (with_reducible refine (number_Decs.calls k1 _ _ l1 t295 _ ?side1 ?side2 ?side3 A29.out).mono ?_); (case side1 => first | exact hT | ((repeat (with_reducible first | exact hT | apply Tabs.drewN | apply Tabs.drew)); done) | exact Tabs.below hT (by repeat (first | (with_reducible first | exact HB.out | apply below_alloc | apply pw_below_drewN | apply below_drew1) | exact HB.out))); (case side2 => repeat (first | exact (Kd.C_below HR1.out HB.out) | (with_reducible refine Kd.C_alloc ?_ _) | (with_reducible refine Kd.C_drewN ?_ _) | (with_reducible refine Kd.C_drew ?_))); (case side3 => exact HC1.out); rintro e w33 ⟨rfl, hb⟩; have n0_ := Aside0.mk (Kd.R_below (by (with_reducible repeat (first | apply Kd.R_alloc | apply Kd.R_drewN | apply Kd.R_drew)); exact HO_8.out) hb); have n1_ := Aside0.mk (Kd.R_below (by (with_reducible repeat (first | apply Kd.R_alloc | apply Kd.R_drewN | apply Kd.R_drew)); exact HO_11.out) hb); have n2_ := Aside0.mk (below_step (by repeat (first | (with_reducible first | exact HB.out | apply below_alloc | apply pw_below_drewN | apply below_drew1) | exact HB.out)) hb); clear HO_8; clear HO_11; clear HB; have HO_8 := n0_; have HO_11 := n1_; have HB := n2_; clear n0_ n1_ n2_; (try clear hb); (try clear hb2); (try clear hk); (try clear hi)) | (go_at_call 14; (with_reducible refine (deckleref12_Decs.calls k1 _ _ l1 t296 _ ?side1 ?side2 ?side3 A30.out).mono ?_); (case side1 => first | exact hT | ((repeat (with_reducible first | exact hT | apply Tabs.drewN | apply Tabs.drew)); done) | exact Tabs.below hT (by repeat (first | (with_reducible first | exact HB.out | apply below_alloc | apply pw_below_drewN | apply below_drew1) | exact HB.out))); (case side2 => repeat (first | exact (Kd.C_below HR1.out HB.out) | (with_reducible refine Kd.C_alloc ?_ _) | (with_reducible refine Kd.C_drewN ?_ _) | (with_reducible refine Kd.C_drew ?_))); (case side3 => exact HC1.out); rintro e w34 ⟨rfl, hb⟩; have n0_ := Aside0.mk (Kd.R_below (by (with_reducible repeat (first | apply Kd.R_alloc | apply Kd.R_drewN | apply Kd.R_drew)); exact HO_8.out) hb); have n1_ := Aside0.mk (Kd.R_below (by (with_reducible repeat (first | apply Kd.R_alloc | apply Kd.R_drewN | apply Kd.R_drew)); exact HO_11.out) hb); have n2_ := Aside0.mk (below_step (by repeat (first | (with_reducible first | exact HB.out | apply below_alloc | apply pw_below_drewN | apply below_drew1) | exact HB.out)) hb); clear HO_8; clear HO_11; clear HB; have HO_8 := n0_; have HO_11 := n1_; have HB := n2_; clear n0_ n1_ n2_; (try clear hb); (try clear hb2); (try clear hk); (try clear hi))))
                        go_ret
                        exact ⟨by first | rfl | (simp [errW_none, errW_some] <;> rfl) | (simp [*, errW_none, errW_some] <;> rfl) | (simp [errW_none, errW_some, bne_nil_, beq_nil_]; done) | (simp [*, errW_none, errW_some, bne_nil_, beq_nil_]; done), by repeat (first | (with_reducible first | exact HB.out | apply below_alloc | apply pw_below_drewN | apply below_drew1) | exact HB.out)⟩
                      · rw [if_neg c28] at H
                        have c28b0 : (t293.toList == t294.toList) = false := beq_eq_false_iff_ne.mpr c28
                        have c28b1 : (t293.toList != t294.toList) = true := bne_iff_ne.mpr c28
                        exact absurd (Option.some.inj H) (by rw [hr]; decide)
                    · rw [if_neg c25] at H
                      have c25b0 : (t283 == t288) = false := by simpa using c25
                      (try (have c25b1 : decide (t283 = t288) = false := by simpa using c25))
                      (try (have c25b2 : (t283 == t288) = false := by simpa using c25))
                      (try (have c25b3 : ¬ (t283 = t288) := by simpa using c25))
                      clear c25
                      exact absurd (Option.some.inj H) (by rw [hr]; decide)
                  · rw [if_neg c24] at H
                    have c24b0 : (t282.toList == t287.toList) = false := beq_eq_false_iff_ne.mpr c24
                    have c24b1 : (t282.toList != t287.toList) = true := bne_iff_ne.mpr c24
                    exact absurd (Option.some.inj H) (by rw [hr]; decide)
                · replace c23 := Bool.eq_false_iff.mpr c23
                  subst c23
                  rw [if_neg (show ¬ (false = true) by decide)] at H
                  exact absurd (Option.some.inj H) (by rw [hr]; decide)
        · rw [if_neg c13] at H
          have c13b0 : ((t281.length : Int) == (t286.length : Int)) = false := beq_eq_false_iff_ne.mpr c13
          have c13b1 : ((t281.length : Int) != (t286.length : Int)) = true := bne_iff_ne.mpr c13
          have c13b2 : (t281.length == t286.length) = false := by first | simpa using c13 | (simp at c13 ⊢; omega)
          exact absurd (Option.some.inj H) (by rw [hr]; decide)

end Go.Proofs.YtbbonbhammfpjaaDoor.All
