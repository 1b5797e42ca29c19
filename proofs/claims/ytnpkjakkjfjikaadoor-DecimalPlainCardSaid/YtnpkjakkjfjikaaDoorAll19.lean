-- Written for this claim by wip/tools/gprint.py out of the translation (it drives the kit's print). Lean checks it.
import Derived.Test.YtnpkjakkjfjikaaDoorAll0
import Derived.Test.YtnpkjakkjfjikaaDoorAll2
import Derived.Test.YtnpkjakkjfjikaaDoorAll4
import Derived.Test.YtnpkjakkjfjikaaDoorAll7
namespace Go.Proofs.YtnpkjakkjfjikaaDoor.All
open Go.RowKit Go.Proofs.YtnpkjakkjfjikaaDoorW.PrintWords Go.Proofs.YtnpkjakkjfjikaaDoorW.PrintLast Go.Proofs.YtnpkjakkjfjikaaDoorW.PrintMore Go.Proofs.YtnpkjakkjfjikaaDoor.G
attribute [local go_sem] max2_int min2_int max_two min_two max_three min_three max_four min_four str_leq str_gtr str_geq   -- for this text's walks alone
set_option linter.unusedVariables false
set_option linter.unusedSimpArgs false

/-! ### decklelaw06_DecimalPlain_t: function 8 -/
def decklelaw06_DecimalPlain_t.l0 : Nat → Bool → ByteArray → Int → Int → Int → Int → Int → Option (Bool)
  | 0, _, _, _, _, _, _, _ => none
  | k + 1, x3, x4, x5, x6, x7, x343000, x343001 => if x7 < (x4.size : Int) then (if 0 ≤ x7 then (if (bt x4 x7) ≥ 48 then (if (bt x4 x7) ≤ 57 then (decklelaw06_DecimalPlain_t.l0 k x3 x4 x5 x6 (wrap64 (x7 + 1)) x343000 x343001) else (if (bt x4 x7) = 69 then (decklelaw06_DecimalPlain_t.l0 k x3 x4 x5 (wrap64 (x6 + 1)) (wrap64 (x7 + 1)) x343000 x343001) else (if (bt x4 x7) = 194 then (decklelaw06_DecimalPlain_t.l0 k x3 x4 (wrap64 (x5 + 1)) x6 (wrap64 (x7 + 1)) x343000 x343001) else (if (bt x4 x7) = 175 then (decklelaw06_DecimalPlain_t.l0 k x3 x4 x5 x6 (wrap64 (x7 + 1)) x343000 x343001) else (some false))))) else (if (bt x4 x7) = 69 then (decklelaw06_DecimalPlain_t.l0 k x3 x4 x5 (wrap64 (x6 + 1)) (wrap64 (x7 + 1)) x343000 x343001) else (if (bt x4 x7) = 194 then (decklelaw06_DecimalPlain_t.l0 k x3 x4 (wrap64 (x5 + 1)) x6 (wrap64 (x7 + 1)) x343000 x343001) else (if (bt x4 x7) = 175 then (decklelaw06_DecimalPlain_t.l0 k x3 x4 x5 x6 (wrap64 (x7 + 1)) x343000 x343001) else (some false))))) else (none)) else (if x343000 < 0 then (if x343001 < 0 then (if x3 = true then (if x5 = 2 then (if ((x6 == 1) == (x343001 != 0)) = true then (if x6 ≤ 1 then (some (decide ((x4.size : Int) ≤ 30))) else (some false)) else (some false)) else (some false)) else (some false)) else (if x3 = true then (if x5 = 1 then (if ((x6 == 1) == (x343001 != 0)) = true then (if x6 ≤ 1 then (some (decide ((x4.size : Int) ≤ 30))) else (some false)) else (some false)) else (some false)) else (some false))) else (if x343001 < 0 then (if x3 = true then (if x5 = 1 then (if ((x6 == 1) == (x343001 != 0)) = true then (if x6 ≤ 1 then (some (decide ((x4.size : Int) ≤ 30))) else (some false)) else (some false)) else (some false)) else (some false)) else (if x3 = true then (if x5 = 0 then (if ((x6 == 1) == (x343001 != 0)) = true then (if x6 ≤ 1 then (some (decide ((x4.size : Int) ≤ 30))) else (some false)) else (some false)) else (some false)) else (some false))))
def decklelaw06_DecimalPlain_t.f (k : Nat) (a0_0 : Int) (a0_1 : Int) : Option (Bool) := (decklelaw06_small.f k).bind fun t343 => ((decimal_Text.f k a0_0 a0_1).bind fun t344 => (if t344.toList = ([] : List UInt8) then (if t343 = true then ((decimal_Right.f k a0_0 a0_1).bind fun t345 => (some (!t345))) else (some false)) else (decklelaw06_DecimalPlain_t.l0 k t343 t344 0 0 0 a0_0 a0_1)))
theorem decklelaw06_DecimalPlain_t.mono_l : ∀ k, (∀ y0 y1 y2 y3 y4 y5 y6, LeO (decklelaw06_DecimalPlain_t.l0 k y0 y1 y2 y3 y4 y5 y6) (decklelaw06_DecimalPlain_t.l0 (k + 1) y0 y1 y2 y3 y4 y5 y6))
  | 0 => fun _ _ _ _ _ _ _ r h => by simp [decklelaw06_DecimalPlain_t.l0] at h
  | k + 1 => by
    have ih0 := decklelaw06_DecimalPlain_t.mono_l k
    · intro y0 y1 y2 y3 y4 y5 y6
      unfold decklelaw06_DecimalPlain_t.l0
      repeat' first
      | (with_reducible exact ih0 _ _ _ _ _ _ _)
      | (with_reducible exact decimal_Right.mono _ _ _)
      | (with_reducible exact decimal_Text.mono _ _ _)
      | (with_reducible exact decklelaw06_small.mono _)
      | (with_reducible exact LeO.refl _)
      | (with_reducible exact LeO.none _)
      | (with_reducible refine LeO.ite ?_ ?_)
      | (with_reducible refine LeO.bind ?_ (fun _ => ?_))
      | exact ih0 _ _ _ _ _ _ _
      | exact decimal_Right.mono _ _ _
      | exact decimal_Text.mono _ _ _
      | exact decklelaw06_small.mono _
      | exact LeO.none _
      | refine LeO.ite ?_ ?_
      | refine LeO.bind ?_ (fun _ => ?_)
theorem decklelaw06_DecimalPlain_t.mono : ∀ a0 a1 k, LeO (decklelaw06_DecimalPlain_t.f k a0 a1) (decklelaw06_DecimalPlain_t.f (k + 1) a0 a1) := by
  intro a0 a1 k
  have ih0 := decklelaw06_DecimalPlain_t.mono_l k
  unfold decklelaw06_DecimalPlain_t.f
  repeat' first
      | (with_reducible exact ih0 _ _ _ _ _ _ _)
      | (with_reducible exact decimal_Right.mono _ _ _)
      | (with_reducible exact decimal_Text.mono _ _ _)
      | (with_reducible exact decklelaw06_small.mono _)
      | (with_reducible exact LeO.refl _)
      | (with_reducible exact LeO.none _)
      | (with_reducible refine LeO.ite ?_ ?_)
      | (with_reducible refine LeO.bind ?_ (fun _ => ?_))
      | exact ih0 _ _ _ _ _ _ _
      | exact decimal_Right.mono _ _ _
      | exact decimal_Text.mono _ _ _
      | exact decklelaw06_small.mono _
      | exact LeO.none _
      | refine LeO.ite ?_ ?_
      | refine LeO.bind ?_ (fun _ => ?_)
set_option maxHeartbeats 8000000 in
set_option maxRecDepth 100000 in
theorem decklelaw06_DecimalPlain_t.calls (k : Nat) (a0_0 : Int) (a0_1 : Int) (r : Bool) (w : World) (hT : Tabs w) (hr : r = true) (h : decklelaw06_DecimalPlain_t.f k a0_0 a0_1 = some r) :
    Calls Tryd.prog 8 #[.agg #[.int .i64 a0_0, .int .i64 a0_1]] w fun e w' => e = .returned (.bool r) ∧ Below w.heap.size w w' := by
  have hu23 := Tryd.underlying23
  have HB := Aside0.mk (Below.refl w.heap.size w)
  have H : ((decklelaw06_small.f k).bind fun t343 => ((decimal_Text.f k a0_0 a0_1).bind fun t344 => (if t344.toList = ([] : List UInt8) then (if t343 = true then ((decimal_Right.f k a0_0 a0_1).bind fun t345 => (some (!t345))) else (some false)) else (decklelaw06_DecimalPlain_t.l0 k t343 t344 0 0 0 a0_0 a0_1)))) = some r := h
  clear h
  replace H := Option.bind_eq_some_iff.mp H
  obtain ⟨t343, A20, H⟩ := H
  have A2 := Aside0.mk A20; clear A20
  replace H := Option.bind_eq_some_iff.mp H
  obtain ⟨t344, A30, H⟩ := H
  have A3 := Aside0.mk A30; clear A30
  by_cases c4 : t344.toList = ([] : List UInt8)
  · rw [if_pos c4] at H
    have c4b0 : (t344.toList == ([] : List UInt8)) = true := beq_iff_eq.mpr c4
    have c4b1 : (t344.toList != ([] : List UInt8)) = false := bne_eq_false_iff_eq.mpr c4
    clear c4
    by_cases c5 : t343 = true
    · subst c5
      rw [if_pos rfl] at H
      replace H := Option.bind_eq_some_iff.mp H
      obtain ⟨t345, A60, H⟩ := H
      have A6 := Aside0.mk A60; clear A60
      clear hr
      obtain rfl := Option.some.inj H
      go_enter Tryd.func8, Tryd.ntmps8
      go_wp2_with (first | ((with_reducible refine gate_dst (N := 1) rfl ?_); (try (refine gate_guard (by rfl) ?_; dsimp only)); refine box_event ?hg (N := 1) ?hd (cs := #[.int .i64 a0_0, .int .i64 a0_1]) (t := 23) ?hr ?_; (case hd => rfl); (case hg => rfl); (case hr => first | (go_simp; done) | (go_simp; rfl)); intro gb342 hg w7 hbox hb; have n0_ := Aside0.mk (below_step (by repeat (first | (with_reducible first | exact HB.out | apply below_alloc | apply pw_below_drewN | apply below_drew1) | exact HB.out)) hb); have n1_ := Aside0.mk (hbox); have n2_ := Aside0.mk ((by rw [hg]; exact (below_size (by repeat (first | (with_reducible first | exact HB.out | apply below_alloc | apply pw_below_drewN | apply below_drew1) | exact HB.out))) : w.heap.size ≤ gb342)); have n3_ := Aside0.mk ((by rw [hg]; exact (below_size (by repeat (first | (with_reducible first | exact HB.out | apply below_alloc | apply pw_below_drewN | apply below_drew1) | exact HB.out))) : w.heap.size ≤ gb342)); clear HB; have HB := n0_; have BK342 := n1_; have GW342 := n2_; have GE342 := n3_; clear n0_ n1_ n2_ n3_; clear hb hbox hg) | ((with_reducible refine gate_callee (f := 9) rfl ?_); refine goesL_ (some 9) rfl rfl Tryd.func9 (by kernel_rfl) rfl #[] rfl (by (try simp only [List.map_toArray, List.map_cons, List.map_nil]); first | done | rfl | (simp only [List.length_drop, List.length_take]; rfl)) ?_; (with_reducible refine (decklelaw06_small.calls k  true _ ?side1 A2.out).mono ?_); (case side1 => first | exact hT | exact Tabs.below hT (by repeat (first | (with_reducible first | exact HB.out | apply below_alloc | apply pw_below_drewN | apply below_drew1 | refine below_set ?_ GE342.out) | exact HB.out)) | ((repeat (first | exact hT | apply Tabs.drewN | apply Tabs.drew)); done)); rintro e w8 ⟨rfl, hb⟩; refine ⟨_, rfl, ?_⟩; have n0_ := Aside0.mk (blk_below (g := gb342) (o := .cells #[.int .i64 a0_0, .int .i64 a0_1] 23 (0, 0)) (by (with_reducible repeat (first | refine blk_drewN ?_ _ | refine blk_drew ?_ | refine blk_alloc ?_ _)); exact BK342.out) hb); have n1_ := Aside0.mk (below_step (by repeat (first | (with_reducible first | exact HB.out | apply below_alloc | apply pw_below_drewN | apply below_drew1 | refine below_set ?_ GE342.out) | exact HB.out)) hb); clear BK342; clear HB; have BK342 := n0_; have HB := n1_; clear n0_ n1_; (try clear hb); (try clear hb2); (try clear hk); (try clear hi); have hcz9_0 : w8.cell? ⟨gb342, 0, none⟩ = some (.int .i64 a0_0) := (blk_cell BK342.out 0).trans rfl; have hcz9_1 : w8.cell? ⟨gb342, 1, none⟩ = some (.int .i64 a0_1) := (blk_cell BK342.out 1).trans rfl; have hfz9_0 := blk_frozen BK342.out 0; have hfz9_1 := blk_frozen BK342.out 1) | ((with_reducible refine gate_callee (f := 20) rfl ?_); refine goesL_ (some 11) rfl rfl Tryd.func20 (by kernel_rfl) rfl #[.agg #[.int .i64 a0_0, .int .i64 a0_1]] rfl (by (try simp only [List.map_toArray, List.map_cons, List.map_nil]); first | done | rfl | (simp only [List.length_drop, List.length_take]; rfl)) ?_; (with_reducible refine (decimal_Text.calls k a0_0 a0_1 t344 _ ?side1 A3.out).mono ?_); (case side1 => first | exact hT | exact Tabs.below hT (by repeat (first | (with_reducible first | exact HB.out | apply below_alloc | apply pw_below_drewN | apply below_drew1 | refine below_set ?_ GE342.out) | exact HB.out)) | ((repeat (first | exact hT | apply Tabs.drewN | apply Tabs.drew)); done)); rintro e w10 ⟨rfl, hb⟩; refine ⟨_, rfl, ?_⟩; have n0_ := Aside0.mk (blk_below (g := gb342) (o := .cells #[.int .i64 a0_0, .int .i64 a0_1] 23 (0, 0)) (by (with_reducible repeat (first | refine blk_drewN ?_ _ | refine blk_drew ?_ | refine blk_alloc ?_ _)); exact BK342.out) hb); have n1_ := Aside0.mk (below_step (by repeat (first | (with_reducible first | exact HB.out | apply below_alloc | apply pw_below_drewN | apply below_drew1 | refine below_set ?_ GE342.out) | exact HB.out)) hb); clear BK342; clear HB; have BK342 := n0_; have HB := n1_; clear n0_ n1_; (try clear hb); (try clear hb2); (try clear hk); (try clear hi); have hcz11_0 : w10.cell? ⟨gb342, 0, none⟩ = some (.int .i64 a0_0) := (blk_cell BK342.out 0).trans rfl; have hcz11_1 : w10.cell? ⟨gb342, 1, none⟩ = some (.int .i64 a0_1) := (blk_cell BK342.out 1).trans rfl; have hfz11_0 := blk_frozen BK342.out 0; have hfz11_1 := blk_frozen BK342.out 1) | (go_at_call 16; (with_reducible refine (decimal_Right.calls k a0_0 a0_1 t345 _ ?side1 A6.out).mono ?_); (case side1 => first | exact hT | exact Tabs.below hT (by repeat (first | (with_reducible first | exact HB.out | apply below_alloc | apply pw_below_drewN | apply below_drew1 | refine below_set ?_ GE342.out) | exact HB.out)) | ((repeat (first | exact hT | apply Tabs.drewN | apply Tabs.drew)); done)); rintro e w12 ⟨rfl, hb⟩; have n0_ := Aside0.mk (blk_below (g := gb342) (o := .cells #[.int .i64 a0_0, .int .i64 a0_1] 23 (0, 0)) (by (with_reducible repeat (first | refine blk_drewN ?_ _ | refine blk_drew ?_ | refine blk_alloc ?_ _)); exact BK342.out) hb); have n1_ := Aside0.mk (below_step (by repeat (first | (with_reducible first | exact HB.out | apply below_alloc | apply pw_below_drewN | apply below_drew1 | refine below_set ?_ GE342.out) | exact HB.out)) hb); clear BK342; clear HB; have BK342 := n0_; have HB := n1_; clear n0_ n1_; (try clear hb); (try clear hb2); (try clear hk); (try clear hi)))
      go_ret
      exact ⟨by first | rfl | (simp [errW_none, errW_some] <;> rfl) | (simp [*, errW_none, errW_some] <;> rfl) | (simp [errW_none, errW_some, bne_nil_, beq_nil_]; done) | (simp [*, errW_none, errW_some, bne_nil_, beq_nil_]; done), by repeat (first | (with_reducible first | exact HB.out | apply below_alloc | apply pw_below_drewN | apply below_drew1 | refine below_set ?_ GE342.out) | exact HB.out)⟩
    · replace c5 := Bool.eq_false_iff.mpr c5
      subst c5
      rw [if_neg (show ¬ (false = true) by decide)] at H
      exact absurd (Option.some.inj H) (by rw [hr]; decide)
  · rw [if_neg c4] at H
    have c4b0 : (t344.toList == ([] : List UInt8)) = false := beq_eq_false_iff_ne.mpr c4
    have c4b1 : (t344.toList != ([] : List UInt8)) = true := bne_iff_ne.mpr c4
    have H' := Aside0.mk H
    clear H
    go_enter Tryd.func8, Tryd.ntmps8
    go_wp2_with (first | ((with_reducible refine gate_dst (N := 1) rfl ?_); (try (refine gate_guard (by rfl) ?_; dsimp only)); refine box_event ?hg (N := 1) ?hd (cs := #[.int .i64 a0_0, .int .i64 a0_1]) (t := 23) ?hr ?_; (case hd => rfl); (case hg => rfl); (case hr => first | (go_simp; done) | (go_simp; rfl)); intro gb342 hg w13 hbox hb; have n0_ := Aside0.mk (below_step (by repeat (first | (with_reducible first | exact HB.out | apply below_alloc | apply pw_below_drewN | apply below_drew1) | exact HB.out)) hb); have n1_ := Aside0.mk (hbox); have n2_ := Aside0.mk ((by rw [hg]; exact (below_size (by repeat (first | (with_reducible first | exact HB.out | apply below_alloc | apply pw_below_drewN | apply below_drew1) | exact HB.out))) : w.heap.size ≤ gb342)); have n3_ := Aside0.mk ((by rw [hg]; exact (below_size (by repeat (first | (with_reducible first | exact HB.out | apply below_alloc | apply pw_below_drewN | apply below_drew1) | exact HB.out))) : w.heap.size ≤ gb342)); clear HB; have HB := n0_; have BK342 := n1_; have GW342 := n2_; have GE342 := n3_; clear n0_ n1_ n2_ n3_; clear hb hbox hg) | ((with_reducible refine gate_callee (f := 9) rfl ?_); refine goesL_ (some 9) rfl rfl Tryd.func9 (by kernel_rfl) rfl #[] rfl (by (try simp only [List.map_toArray, List.map_cons, List.map_nil]); first | done | rfl | (simp only [List.length_drop, List.length_take]; rfl)) ?_; (with_reducible refine (decklelaw06_small.calls k  t343 _ ?side1 A2.out).mono ?_); (case side1 => first | exact hT | exact Tabs.below hT (by repeat (first | (with_reducible first | exact HB.out | apply below_alloc | apply pw_below_drewN | apply below_drew1 | refine below_set ?_ GE342.out) | exact HB.out)) | ((repeat (first | exact hT | apply Tabs.drewN | apply Tabs.drew)); done)); rintro e w14 ⟨rfl, hb⟩; refine ⟨_, rfl, ?_⟩; have n0_ := Aside0.mk (blk_below (g := gb342) (o := .cells #[.int .i64 a0_0, .int .i64 a0_1] 23 (0, 0)) (by (with_reducible repeat (first | refine blk_drewN ?_ _ | refine blk_drew ?_ | refine blk_alloc ?_ _)); exact BK342.out) hb); have n1_ := Aside0.mk (below_step (by repeat (first | (with_reducible first | exact HB.out | apply below_alloc | apply pw_below_drewN | apply below_drew1 | refine below_set ?_ GE342.out) | exact HB.out)) hb); clear BK342; clear HB; have BK342 := n0_; have HB := n1_; clear n0_ n1_; (try clear hb); (try clear hb2); (try clear hk); (try clear hi); have hcz15_0 : w14.cell? ⟨gb342, 0, none⟩ = some (.int .i64 a0_0) := (blk_cell BK342.out 0).trans rfl; have hcz15_1 : w14.cell? ⟨gb342, 1, none⟩ = some (.int .i64 a0_1) := (blk_cell BK342.out 1).trans rfl; have hfz15_0 := blk_frozen BK342.out 0; have hfz15_1 := blk_frozen BK342.out 1) | ((with_reducible refine gate_callee (f := 20) rfl ?_); refine goesL_ (some 11) rfl rfl Tryd.func20 (by kernel_rfl) rfl #[.agg #[.int .i64 a0_0, .int .i64 a0_1]] rfl (by (try simp only [List.map_toArray, List.map_cons, List.map_nil]); first | done | rfl | (simp only [List.length_drop, List.length_take]; rfl)) ?_; (with_reducible refine (decimal_Text.calls k a0_0 a0_1 t344 _ ?side1 A3.out).mono ?_); (case side1 => first | exact hT | exact Tabs.below hT (by repeat (first | (with_reducible first | exact HB.out | apply below_alloc | apply pw_below_drewN | apply below_drew1 | refine below_set ?_ GE342.out) | exact HB.out)) | ((repeat (first | exact hT | apply Tabs.drewN | apply Tabs.drew)); done)); rintro e w16 ⟨rfl, hb⟩; refine ⟨_, rfl, ?_⟩; have n0_ := Aside0.mk (blk_below (g := gb342) (o := .cells #[.int .i64 a0_0, .int .i64 a0_1] 23 (0, 0)) (by (with_reducible repeat (first | refine blk_drewN ?_ _ | refine blk_drew ?_ | refine blk_alloc ?_ _)); exact BK342.out) hb); have n1_ := Aside0.mk (below_step (by repeat (first | (with_reducible first | exact HB.out | apply below_alloc | apply pw_below_drewN | apply below_drew1 | refine below_set ?_ GE342.out) | exact HB.out)) hb); clear BK342; clear HB; have BK342 := n0_; have HB := n1_; clear n0_ n1_; (try clear hb); (try clear hb2); (try clear hk); (try clear hi)))
    go_loopg [5, 6, 7] k (fun kq v5 v6 v7 w' => ∃ (x5_1 : Int) (x6_1 : Int) (x7_1 : Int), v5 = .int .i64 x5_1 ∧ v6 = .int .i64 x6_1 ∧ v7 = .int .i64 x7_1 ∧ Aside0 (decklelaw06_DecimalPlain_t.l0 kq t343 t344 x5_1 x6_1 x7_1 a0_0 a0_1 = some r) ∧ Aside0 (kq ≤ k) ∧ Aside0 (w'.heap[gb342]? = some (.cells #[.int .i64 a0_0, .int .i64 a0_1] 23 (0, 0))) ∧ Aside0 (Below w.heap.size w w'))
    case atStart => exact ⟨(0), (0), (0), (by first | rfl | (simp; done) | (simp [*]; done)), (by first | rfl | (simp; done) | (simp [*]; done)), (by first | rfl | (simp; done) | (simp [*]; done)), H', ⟨Nat.le_refl _⟩, ⟨by (with_reducible repeat (first | refine blk_drewN ?_ _ | refine blk_drew ?_ | refine blk_alloc ?_ _)); exact BK342.out⟩, ⟨by repeat (first | (with_reducible first | exact HB.out | apply below_alloc | apply pw_below_drewN | apply below_drew1 | refine below_set ?_ GE342.out) | exact HB.out)⟩⟩
    case round =>
      clear H'
      try clear c2
      try clear p2
      try clear c4
      try clear c4b0
      try clear c4b1
      try clear c5
      try clear c8
      try clear c9
      try clear hcz11_0
      try clear hcz11_1
      try clear hcz15_0
      try clear hcz15_1
      try clear hcz9_0
      try clear hcz9_1
      try clear hfz11_0
      try clear hfz11_1
      try clear hfz15_0
      try clear hfz15_1
      try clear hfz9_0
      try clear hfz9_1
      obtain ⟨x5_1, x6_1, x7_1, rfl, rfl, rfl, HA, HK1, BK342, HB⟩ := hrel
      cases gk with
      | zero => exact absurd HA.out (by simp [decklelaw06_DecimalPlain_t.l0])
      | succ k1 =>
        have H := HA.out
        clear HA
        simp only [decklelaw06_DecimalPlain_t.l0] at H
        by_cases c17 : x7_1 < (t344.size : Int)
        · rw [if_pos c17] at H
          have c17b0 : decide (x7_1 < (t344.size : Int)) = true := decide_eq_true c17
          clear c17
          by_cases c18 : 0 ≤ x7_1
          · rw [if_pos c18] at H
            have c18b0 : decide (0 ≤ x7_1) = true := decide_eq_true c18
            clear c18
            by_cases c20 : (bt t344 x7_1) ≥ 48
            · rw [if_pos c20] at H
              have c20b0 : decide (48 ≤ (bt t344 x7_1)) = true := decide_eq_true c20
              clear c20
              by_cases c22 : (bt t344 x7_1) ≤ 57
              · rw [if_pos c22] at H
                have c22b0 : decide ((bt t344 x7_1) ≤ 57) = true := decide_eq_true c22
                clear c22
                have H' := Aside0.mk H
                clear H
                have p19 : 0 ≤ (x7_1 : Int) := of_decide_eq_true (by first | (with_reducible assumption) | assumption)
                have q19 : x7_1 < (t344.size : Int) := of_decide_eq_true (by first | (with_reducible assumption) | assumption)
                have hx19 := bt_at t344 x7_1
                replace p19 := eq_true p19
                replace q19 := eq_true q19
                have p21 : 0 ≤ (x7_1 : Int) := of_decide_eq_true (by first | (with_reducible assumption) | assumption)
                have q21 : x7_1 < (t344.size : Int) := of_decide_eq_true (by first | (with_reducible assumption) | assumption)
                have hx21 := bt_at t344 x7_1
                replace p21 := eq_true p21
                replace q21 := eq_true q21
                go_wp2
                go_roundg k1
                case measure => have := HK1.out; omega
                case rel => exact ⟨(x5_1), (x6_1), (wrap64 (x7_1 + 1)), (by first | rfl | (simp; done) | (simp [*]; done)), (by first | rfl | (simp; done) | (simp [*]; done)), (by first | rfl | (simp; done) | (simp [*]; done)), H', ⟨by have := HK1.out; omega⟩, ⟨by (with_reducible repeat (first | refine blk_drewN ?_ _ | refine blk_drew ?_ | refine blk_alloc ?_ _)); exact BK342.out⟩, ⟨by repeat (first | (with_reducible first | exact HB.out | apply below_alloc | apply pw_below_drewN | apply below_drew1 | refine below_set ?_ GE342.out) | exact HB.out)⟩⟩
              · rw [if_neg c22] at H
                have c22b0 : decide ((bt t344 x7_1) ≤ 57) = false := decide_eq_false c22
                clear c22
                by_cases c24 : (bt t344 x7_1) = 69
                · rw [if_pos c24] at H
                  have c24b0 : ((bt t344 x7_1) == 69) = true := beq_iff_eq.mpr c24
                  have c24b1 : ((bt t344 x7_1) != 69) = false := bne_eq_false_iff_eq.mpr c24
                  clear c24
                  have H' := Aside0.mk H
                  clear H
                  have p19 : 0 ≤ (x7_1 : Int) := of_decide_eq_true (by first | (with_reducible assumption) | assumption)
                  have q19 : x7_1 < (t344.size : Int) := of_decide_eq_true (by first | (with_reducible assumption) | assumption)
                  have hx19 := bt_at t344 x7_1
                  replace p19 := eq_true p19
                  replace q19 := eq_true q19
                  have p21 : 0 ≤ (x7_1 : Int) := of_decide_eq_true (by first | (with_reducible assumption) | assumption)
                  have q21 : x7_1 < (t344.size : Int) := of_decide_eq_true (by first | (with_reducible assumption) | assumption)
                  have hx21 := bt_at t344 x7_1
                  replace p21 := eq_true p21
                  replace q21 := eq_true q21
                  have p23 : 0 ≤ (x7_1 : Int) := of_decide_eq_true (by first | (with_reducible assumption) | assumption)
                  have q23 : x7_1 < (t344.size : Int) := of_decide_eq_true (by first | (with_reducible assumption) | assumption)
                  have hx23 := bt_at t344 x7_1
                  replace p23 := eq_true p23
                  replace q23 := eq_true q23
                  go_wp2
                  go_roundg k1
                  case measure => have := HK1.out; omega
                  case rel => exact ⟨(x5_1), (wrap64 (x6_1 + 1)), (wrap64 (x7_1 + 1)), (by first | rfl | (simp; done) | (simp [*]; done)), (by first | rfl | (simp; done) | (simp [*]; done)), (by first | rfl | (simp; done) | (simp [*]; done)), H', ⟨by have := HK1.out; omega⟩, ⟨by (with_reducible repeat (first | refine blk_drewN ?_ _ | refine blk_drew ?_ | refine blk_alloc ?_ _)); exact BK342.out⟩, ⟨by repeat (first | (with_reducible first | exact HB.out | apply below_alloc | apply pw_below_drewN | apply below_drew1 | refine below_set ?_ GE342.out) | exact HB.out)⟩⟩
                · rw [if_neg c24] at H
                  have c24b0 : ((bt t344 x7_1) == 69) = false := beq_eq_false_iff_ne.mpr c24
                  have c24b1 : ((bt t344 x7_1) != 69) = true := bne_iff_ne.mpr c24
                  by_cases c26 : (bt t344 x7_1) = 194
                  · rw [if_pos c26] at H
                    have c26b0 : ((bt t344 x7_1) == 194) = true := beq_iff_eq.mpr c26
                    have c26b1 : ((bt t344 x7_1) != 194) = false := bne_eq_false_iff_eq.mpr c26
                    clear c26
                    have H' := Aside0.mk H
                    clear H
                    have p19 : 0 ≤ (x7_1 : Int) := of_decide_eq_true (by first | (with_reducible assumption) | assumption)
                    have q19 : x7_1 < (t344.size : Int) := of_decide_eq_true (by first | (with_reducible assumption) | assumption)
                    have hx19 := bt_at t344 x7_1
                    replace p19 := eq_true p19
                    replace q19 := eq_true q19
                    have p21 : 0 ≤ (x7_1 : Int) := of_decide_eq_true (by first | (with_reducible assumption) | assumption)
                    have q21 : x7_1 < (t344.size : Int) := of_decide_eq_true (by first | (with_reducible assumption) | assumption)
                    have hx21 := bt_at t344 x7_1
                    replace p21 := eq_true p21
                    replace q21 := eq_true q21
                    have p23 : 0 ≤ (x7_1 : Int) := of_decide_eq_true (by first | (with_reducible assumption) | assumption)
                    have q23 : x7_1 < (t344.size : Int) := of_decide_eq_true (by first | (with_reducible assumption) | assumption)
                    have hx23 := bt_at t344 x7_1
                    replace p23 := eq_true p23
                    replace q23 := eq_true q23
                    have p25 : 0 ≤ (x7_1 : Int) := of_decide_eq_true (by first | (with_reducible assumption) | assumption)
                    have q25 : x7_1 < (t344.size : Int) := of_decide_eq_true (by first | (with_reducible assumption) | assumption)
                    have hx25 := bt_at t344 x7_1
                    replace p25 := eq_true p25
                    replace q25 := eq_true q25
                    go_wp2
                    go_roundg k1
                    case measure => have := HK1.out; omega
                    case rel => exact ⟨(wrap64 (x5_1 + 1)), (x6_1), (wrap64 (x7_1 + 1)), (by first | rfl | (simp; done) | (simp [*]; done)), (by first | rfl | (simp; done) | (simp [*]; done)), (by first | rfl | (simp; done) | (simp [*]; done)), H', ⟨by have := HK1.out; omega⟩, ⟨by (with_reducible repeat (first | refine blk_drewN ?_ _ | refine blk_drew ?_ | refine blk_alloc ?_ _)); exact BK342.out⟩, ⟨by repeat (first | (with_reducible first | exact HB.out | apply below_alloc | apply pw_below_drewN | apply below_drew1 | refine below_set ?_ GE342.out) | exact HB.out)⟩⟩
                  · rw [if_neg c26] at H
                    have c26b0 : ((bt t344 x7_1) == 194) = false := beq_eq_false_iff_ne.mpr c26
                    have c26b1 : ((bt t344 x7_1) != 194) = true := bne_iff_ne.mpr c26
                    by_cases c28 : (bt t344 x7_1) = 175
                    · rw [if_pos c28] at H
                      have c28b0 : ((bt t344 x7_1) == 175) = true := beq_iff_eq.mpr c28
                      have c28b1 : ((bt t344 x7_1) != 175) = false := bne_eq_false_iff_eq.mpr c28
                      clear c28
                      have H' := Aside0.mk H
                      clear H
                      have p19 : 0 ≤ (x7_1 : Int) := of_decide_eq_true (by first | (with_reducible assumption) | assumption)
                      have q19 : x7_1 < (t344.size : Int) := of_decide_eq_true (by first | (with_reducible assumption) | assumption)
                      have hx19 := bt_at t344 x7_1
                      replace p19 := eq_true p19
                      replace q19 := eq_true q19
                      have p21 : 0 ≤ (x7_1 : Int) := of_decide_eq_true (by first | (with_reducible assumption) | assumption)
                      have q21 : x7_1 < (t344.size : Int) := of_decide_eq_true (by first | (with_reducible assumption) | assumption)
                      have hx21 := bt_at t344 x7_1
                      replace p21 := eq_true p21
                      replace q21 := eq_true q21
                      have p23 : 0 ≤ (x7_1 : Int) := of_decide_eq_true (by first | (with_reducible assumption) | assumption)
                      have q23 : x7_1 < (t344.size : Int) := of_decide_eq_true (by first | (with_reducible assumption) | assumption)
                      have hx23 := bt_at t344 x7_1
                      replace p23 := eq_true p23
                      replace q23 := eq_true q23
                      have p25 : 0 ≤ (x7_1 : Int) := of_decide_eq_true (by first | (with_reducible assumption) | assumption)
                      have q25 : x7_1 < (t344.size : Int) := of_decide_eq_true (by first | (with_reducible assumption) | assumption)
                      have hx25 := bt_at t344 x7_1
                      replace p25 := eq_true p25
                      replace q25 := eq_true q25
                      have p27 : 0 ≤ (x7_1 : Int) := of_decide_eq_true (by first | (with_reducible assumption) | assumption)
                      have q27 : x7_1 < (t344.size : Int) := of_decide_eq_true (by first | (with_reducible assumption) | assumption)
                      have hx27 := bt_at t344 x7_1
                      replace p27 := eq_true p27
                      replace q27 := eq_true q27
                      go_wp2
                      go_roundg k1
                      case measure => have := HK1.out; omega
                      case rel => exact ⟨(x5_1), (x6_1), (wrap64 (x7_1 + 1)), (by first | rfl | (simp; done) | (simp [*]; done)), (by first | rfl | (simp; done) | (simp [*]; done)), (by first | rfl | (simp; done) | (simp [*]; done)), H', ⟨by have := HK1.out; omega⟩, ⟨by (with_reducible repeat (first | refine blk_drewN ?_ _ | refine blk_drew ?_ | refine blk_alloc ?_ _)); exact BK342.out⟩, ⟨by repeat (first | (with_reducible first | exact HB.out | apply below_alloc | apply pw_below_drewN | apply below_drew1 | refine below_set ?_ GE342.out) | exact HB.out)⟩⟩
                    · rw [if_neg c28] at H
                      have c28b0 : ((bt t344 x7_1) == 175) = false := beq_eq_false_iff_ne.mpr c28
                      have c28b1 : ((bt t344 x7_1) != 175) = true := bne_iff_ne.mpr c28
                      exact absurd (Option.some.inj H) (by rw [hr]; decide)
            · rw [if_neg c20] at H
              have c20b0 : decide (48 ≤ (bt t344 x7_1)) = false := decide_eq_false c20
              clear c20
              by_cases c30 : (bt t344 x7_1) = 69
              · rw [if_pos c30] at H
                have c30b0 : ((bt t344 x7_1) == 69) = true := beq_iff_eq.mpr c30
                have c30b1 : ((bt t344 x7_1) != 69) = false := bne_eq_false_iff_eq.mpr c30
                clear c30
                have H' := Aside0.mk H
                clear H
                have p19 : 0 ≤ (x7_1 : Int) := of_decide_eq_true (by first | (with_reducible assumption) | assumption)
                have q19 : x7_1 < (t344.size : Int) := of_decide_eq_true (by first | (with_reducible assumption) | assumption)
                have hx19 := bt_at t344 x7_1
                replace p19 := eq_true p19
                replace q19 := eq_true q19
                have p29 : 0 ≤ (x7_1 : Int) := of_decide_eq_true (by first | (with_reducible assumption) | assumption)
                have q29 : x7_1 < (t344.size : Int) := of_decide_eq_true (by first | (with_reducible assumption) | assumption)
                have hx29 := bt_at t344 x7_1
                replace p29 := eq_true p29
                replace q29 := eq_true q29
                go_wp2
                go_roundg k1
                case measure => have := HK1.out; omega
                case rel => exact ⟨(x5_1), (wrap64 (x6_1 + 1)), (wrap64 (x7_1 + 1)), (by first | rfl | (simp; done) | (simp [*]; done)), (by first | rfl | (simp; done) | (simp [*]; done)), (by first | rfl | (simp; done) | (simp [*]; done)), H', ⟨by have := HK1.out; omega⟩, ⟨by (with_reducible repeat (first | refine blk_drewN ?_ _ | refine blk_drew ?_ | refine blk_alloc ?_ _)); exact BK342.out⟩, ⟨by repeat (first | (with_reducible first | exact HB.out | apply below_alloc | apply pw_below_drewN | apply below_drew1 | refine below_set ?_ GE342.out) | exact HB.out)⟩⟩
              · rw [if_neg c30] at H
                have c30b0 : ((bt t344 x7_1) == 69) = false := beq_eq_false_iff_ne.mpr c30
                have c30b1 : ((bt t344 x7_1) != 69) = true := bne_iff_ne.mpr c30
                by_cases c32 : (bt t344 x7_1) = 194
                · rw [if_pos c32] at H
                  have c32b0 : ((bt t344 x7_1) == 194) = true := beq_iff_eq.mpr c32
                  have c32b1 : ((bt t344 x7_1) != 194) = false := bne_eq_false_iff_eq.mpr c32
                  clear c32
                  have H' := Aside0.mk H
                  clear H
                  have p19 : 0 ≤ (x7_1 : Int) := of_decide_eq_true (by first | (with_reducible assumption) | assumption)
                  have q19 : x7_1 < (t344.size : Int) := of_decide_eq_true (by first | (with_reducible assumption) | assumption)
                  have hx19 := bt_at t344 x7_1
                  replace p19 := eq_true p19
                  replace q19 := eq_true q19
                  have p29 : 0 ≤ (x7_1 : Int) := of_decide_eq_true (by first | (with_reducible assumption) | assumption)
                  have q29 : x7_1 < (t344.size : Int) := of_decide_eq_true (by first | (with_reducible assumption) | assumption)
                  have hx29 := bt_at t344 x7_1
                  replace p29 := eq_true p29
                  replace q29 := eq_true q29
                  have p31 : 0 ≤ (x7_1 : Int) := of_decide_eq_true (by first | (with_reducible assumption) | assumption)
                  have q31 : x7_1 < (t344.size : Int) := of_decide_eq_true (by first | (with_reducible assumption) | assumption)
                  have hx31 := bt_at t344 x7_1
                  replace p31 := eq_true p31
                  replace q31 := eq_true q31
                  go_wp2
                  go_roundg k1
                  case measure => have := HK1.out; omega
                  case rel => exact ⟨(wrap64 (x5_1 + 1)), (x6_1), (wrap64 (x7_1 + 1)), (by first | rfl | (simp; done) | (simp [*]; done)), (by first | rfl | (simp; done) | (simp [*]; done)), (by first | rfl | (simp; done) | (simp [*]; done)), H', ⟨by have := HK1.out; omega⟩, ⟨by (with_reducible repeat (first | refine blk_drewN ?_ _ | refine blk_drew ?_ | refine blk_alloc ?_ _)); exact BK342.out⟩, ⟨by repeat (first | (with_reducible first | exact HB.out | apply below_alloc | apply pw_below_drewN | apply below_drew1 | refine below_set ?_ GE342.out) | exact HB.out)⟩⟩
                · rw [if_neg c32] at H
                  have c32b0 : ((bt t344 x7_1) == 194) = false := beq_eq_false_iff_ne.mpr c32
                  have c32b1 : ((bt t344 x7_1) != 194) = true := bne_iff_ne.mpr c32
                  by_cases c34 : (bt t344 x7_1) = 175
                  · rw [if_pos c34] at H
                    have c34b0 : ((bt t344 x7_1) == 175) = true := beq_iff_eq.mpr c34
                    have c34b1 : ((bt t344 x7_1) != 175) = false := bne_eq_false_iff_eq.mpr c34
                    clear c34
                    have H' := Aside0.mk H
                    clear H
                    have p19 : 0 ≤ (x7_1 : Int) := of_decide_eq_true (by first | (with_reducible assumption) | assumption)
                    have q19 : x7_1 < (t344.size : Int) := of_decide_eq_true (by first | (with_reducible assumption) | assumption)
                    have hx19 := bt_at t344 x7_1
                    replace p19 := eq_true p19
                    replace q19 := eq_true q19
                    have p29 : 0 ≤ (x7_1 : Int) := of_decide_eq_true (by first | (with_reducible assumption) | assumption)
                    have q29 : x7_1 < (t344.size : Int) := of_decide_eq_true (by first | (with_reducible assumption) | assumption)
                    have hx29 := bt_at t344 x7_1
                    replace p29 := eq_true p29
                    replace q29 := eq_true q29
                    have p31 : 0 ≤ (x7_1 : Int) := of_decide_eq_true (by first | (with_reducible assumption) | assumption)
                    have q31 : x7_1 < (t344.size : Int) := of_decide_eq_true (by first | (with_reducible assumption) | assumption)
                    have hx31 := bt_at t344 x7_1
                    replace p31 := eq_true p31
                    replace q31 := eq_true q31
                    have p33 : 0 ≤ (x7_1 : Int) := of_decide_eq_true (by first | (with_reducible assumption) | assumption)
                    have q33 : x7_1 < (t344.size : Int) := of_decide_eq_true (by first | (with_reducible assumption) | assumption)
                    have hx33 := bt_at t344 x7_1
                    replace p33 := eq_true p33
                    replace q33 := eq_true q33
                    go_wp2
                    go_roundg k1
                    case measure => have := HK1.out; omega
                    case rel => exact ⟨(x5_1), (x6_1), (wrap64 (x7_1 + 1)), (by first | rfl | (simp; done) | (simp [*]; done)), (by first | rfl | (simp; done) | (simp [*]; done)), (by first | rfl | (simp; done) | (simp [*]; done)), H', ⟨by have := HK1.out; omega⟩, ⟨by (with_reducible repeat (first | refine blk_drewN ?_ _ | refine blk_drew ?_ | refine blk_alloc ?_ _)); exact BK342.out⟩, ⟨by repeat (first | (with_reducible first | exact HB.out | apply below_alloc | apply pw_below_drewN | apply below_drew1 | refine below_set ?_ GE342.out) | exact HB.out)⟩⟩
                  · rw [if_neg c34] at H
                    have c34b0 : ((bt t344 x7_1) == 175) = false := beq_eq_false_iff_ne.mpr c34
                    have c34b1 : ((bt t344 x7_1) != 175) = true := bne_iff_ne.mpr c34
                    exact absurd (Option.some.inj H) (by rw [hr]; decide)
          · rw [if_neg c18] at H
            exact absurd H (by simp)
        · rw [if_neg c17] at H
          have c17b0 : decide (x7_1 < (t344.size : Int)) = false := decide_eq_false c17
          clear c17
          by_cases c35 : a0_0 < 0
          · rw [if_pos c35] at H
            have c35b0 : decide (a0_0 < 0) = true := decide_eq_true c35
            clear c35
            by_cases c36 : a0_1 < 0
            · rw [if_pos c36] at H
              have c36b0 : decide (a0_1 < 0) = true := decide_eq_true c36
              clear c36
              by_cases c37 : t343 = true
              · subst c37
                rw [if_pos rfl] at H
                by_cases c38 : x5_1 = 2
                · rw [if_pos c38] at H
                  have c38b0 : (x5_1 == 2) = true := beq_iff_eq.mpr c38
                  have c38b1 : (x5_1 != 2) = false := bne_eq_false_iff_eq.mpr c38
                  clear c38
                  by_cases c39 : ((x6_1 == 1) == (a0_1 != 0)) = true
                  · rw [if_pos c39] at H
                    have c39b0 : ((x6_1 == 1) == (a0_1 != 0)) = true := c39
                    (try (have c39b1 : decide ((x6_1 == 1) = (a0_1 != 0)) = true := by simpa using c39))
                    (try (have c39b2 : ((x6_1 == 1) == (a0_1 != 0)) = true := by simpa using c39))
                    clear c39
                    by_cases c40 : x6_1 ≤ 1
                    · rw [if_pos c40] at H
                      have c40b0 : decide (x6_1 ≤ 1) = true := decide_eq_true c40
                      clear c40
                      clear hr
                      obtain rfl := Option.some.inj H
                      have hcz41_0 : wr.cell? ⟨gb342, 0, none⟩ = some (.int .i64 a0_0) := (blk_cell BK342.out 0).trans rfl
                      have hcz41_1 : wr.cell? ⟨gb342, 1, none⟩ = some (.int .i64 a0_1) := (blk_cell BK342.out 1).trans rfl
                      have hfz41_0 := blk_frozen BK342.out 0
                      have hfz41_1 := blk_frozen BK342.out 1
                      go_wp2
                      go_ret
                      exact ⟨by first | rfl | (simp [errW_none, errW_some] <;> rfl) | (simp [*, errW_none, errW_some] <;> rfl) | (simp [errW_none, errW_some, bne_nil_, beq_nil_]; done) | (simp [*, errW_none, errW_some, bne_nil_, beq_nil_]; done), by repeat (first | (with_reducible first | exact HB.out | apply below_alloc | apply pw_below_drewN | apply below_drew1 | refine below_set ?_ GE342.out) | exact HB.out)⟩
                    · rw [if_neg c40] at H
                      have c40b0 : decide (x6_1 ≤ 1) = false := decide_eq_false c40
                      clear c40
                      exact absurd (Option.some.inj H) (by rw [hr]; decide)
                  · rw [if_neg c39] at H
                    have c39b0 : ((x6_1 == 1) == (a0_1 != 0)) = false := by simpa using c39
                    (try (have c39b1 : decide ((x6_1 == 1) = (a0_1 != 0)) = false := by simpa using c39))
                    (try (have c39b2 : ((x6_1 == 1) == (a0_1 != 0)) = false := by simpa using c39))
                    (try (have c39b3 : ¬ ((x6_1 == 1) = (a0_1 != 0)) := by simpa using c39))
                    clear c39
                    exact absurd (Option.some.inj H) (by rw [hr]; decide)
                · rw [if_neg c38] at H
                  have c38b0 : (x5_1 == 2) = false := beq_eq_false_iff_ne.mpr c38
                  have c38b1 : (x5_1 != 2) = true := bne_iff_ne.mpr c38
                  exact absurd (Option.some.inj H) (by rw [hr]; decide)
              · replace c37 := Bool.eq_false_iff.mpr c37
                subst c37
                rw [if_neg (show ¬ (false = true) by decide)] at H
                exact absurd (Option.some.inj H) (by rw [hr]; decide)
            · rw [if_neg c36] at H
              have c36b0 : decide (a0_1 < 0) = false := decide_eq_false c36
              clear c36
              by_cases c42 : t343 = true
              · subst c42
                rw [if_pos rfl] at H
                by_cases c43 : x5_1 = 1
                · rw [if_pos c43] at H
                  have c43b0 : (x5_1 == 1) = true := beq_iff_eq.mpr c43
                  have c43b1 : (x5_1 != 1) = false := bne_eq_false_iff_eq.mpr c43
                  clear c43
                  by_cases c44 : ((x6_1 == 1) == (a0_1 != 0)) = true
                  · rw [if_pos c44] at H
                    have c44b0 : ((x6_1 == 1) == (a0_1 != 0)) = true := c44
                    (try (have c44b1 : decide ((x6_1 == 1) = (a0_1 != 0)) = true := by simpa using c44))
                    (try (have c44b2 : ((x6_1 == 1) == (a0_1 != 0)) = true := by simpa using c44))
                    clear c44
                    by_cases c45 : x6_1 ≤ 1
                    · rw [if_pos c45] at H
                      have c45b0 : decide (x6_1 ≤ 1) = true := decide_eq_true c45
                      clear c45
                      clear hr
                      obtain rfl := Option.some.inj H
                      have hcz46_0 : wr.cell? ⟨gb342, 0, none⟩ = some (.int .i64 a0_0) := (blk_cell BK342.out 0).trans rfl
                      have hcz46_1 : wr.cell? ⟨gb342, 1, none⟩ = some (.int .i64 a0_1) := (blk_cell BK342.out 1).trans rfl
                      have hfz46_0 := blk_frozen BK342.out 0
                      have hfz46_1 := blk_frozen BK342.out 1
                      go_wp2
                      go_ret
                      exact ⟨by first | rfl | (simp [errW_none, errW_some] <;> rfl) | (simp [*, errW_none, errW_some] <;> rfl) | (simp [errW_none, errW_some, bne_nil_, beq_nil_]; done) | (simp [*, errW_none, errW_some, bne_nil_, beq_nil_]; done), by repeat (first | (with_reducible first | exact HB.out | apply below_alloc | apply pw_below_drewN | apply below_drew1 | refine below_set ?_ GE342.out) | exact HB.out)⟩
                    · rw [if_neg c45] at H
                      have c45b0 : decide (x6_1 ≤ 1) = false := decide_eq_false c45
                      clear c45
                      exact absurd (Option.some.inj H) (by rw [hr]; decide)
                  · rw [if_neg c44] at H
                    have c44b0 : ((x6_1 == 1) == (a0_1 != 0)) = false := by simpa using c44
                    (try (have c44b1 : decide ((x6_1 == 1) = (a0_1 != 0)) = false := by simpa using c44))
                    (try (have c44b2 : ((x6_1 == 1) == (a0_1 != 0)) = false := by simpa using c44))
                    (try (have c44b3 : ¬ ((x6_1 == 1) = (a0_1 != 0)) := by simpa using c44))
                    clear c44
                    exact absurd (Option.some.inj H) (by rw [hr]; decide)
                · rw [if_neg c43] at H
                  have c43b0 : (x5_1 == 1) = false := beq_eq_false_iff_ne.mpr c43
                  have c43b1 : (x5_1 != 1) = true := bne_iff_ne.mpr c43
                  exact absurd (Option.some.inj H) (by rw [hr]; decide)
              · replace c42 := Bool.eq_false_iff.mpr c42
                subst c42
                rw [if_neg (show ¬ (false = true) by decide)] at H
                exact absurd (Option.some.inj H) (by rw [hr]; decide)
          · rw [if_neg c35] at H
            have c35b0 : decide (a0_0 < 0) = false := decide_eq_false c35
            clear c35
            by_cases c47 : a0_1 < 0
            · rw [if_pos c47] at H
              have c47b0 : decide (a0_1 < 0) = true := decide_eq_true c47
              clear c47
              by_cases c48 : t343 = true
              · subst c48
                rw [if_pos rfl] at H
                by_cases c49 : x5_1 = 1
                · rw [if_pos c49] at H
                  have c49b0 : (x5_1 == 1) = true := beq_iff_eq.mpr c49
                  have c49b1 : (x5_1 != 1) = false := bne_eq_false_iff_eq.mpr c49
                  clear c49
                  by_cases c50 : ((x6_1 == 1) == (a0_1 != 0)) = true
                  · rw [if_pos c50] at H
                    have c50b0 : ((x6_1 == 1) == (a0_1 != 0)) = true := c50
                    (try (have c50b1 : decide ((x6_1 == 1) = (a0_1 != 0)) = true := by simpa using c50))
                    (try (have c50b2 : ((x6_1 == 1) == (a0_1 != 0)) = true := by simpa using c50))
                    clear c50
                    by_cases c51 : x6_1 ≤ 1
                    · rw [if_pos c51] at H
                      have c51b0 : decide (x6_1 ≤ 1) = true := decide_eq_true c51
                      clear c51
                      clear hr
                      obtain rfl := Option.some.inj H
                      have hcz52_0 : wr.cell? ⟨gb342, 0, none⟩ = some (.int .i64 a0_0) := (blk_cell BK342.out 0).trans rfl
                      have hcz52_1 : wr.cell? ⟨gb342, 1, none⟩ = some (.int .i64 a0_1) := (blk_cell BK342.out 1).trans rfl
                      have hfz52_0 := blk_frozen BK342.out 0
                      have hfz52_1 := blk_frozen BK342.out 1
                      go_wp2
                      go_ret
                      exact ⟨by first | rfl | (simp [errW_none, errW_some] <;> rfl) | (simp [*, errW_none, errW_some] <;> rfl) | (simp [errW_none, errW_some, bne_nil_, beq_nil_]; done) | (simp [*, errW_none, errW_some, bne_nil_, beq_nil_]; done), by repeat (first | (with_reducible first | exact HB.out | apply below_alloc | apply pw_below_drewN | apply below_drew1 | refine below_set ?_ GE342.out) | exact HB.out)⟩
                    · rw [if_neg c51] at H
                      have c51b0 : decide (x6_1 ≤ 1) = false := decide_eq_false c51
                      clear c51
                      exact absurd (Option.some.inj H) (by rw [hr]; decide)
                  · rw [if_neg c50] at H
                    have c50b0 : ((x6_1 == 1) == (a0_1 != 0)) = false := by simpa using c50
                    (try (have c50b1 : decide ((x6_1 == 1) = (a0_1 != 0)) = false := by simpa using c50))
                    (try (have c50b2 : ((x6_1 == 1) == (a0_1 != 0)) = false := by simpa using c50))
                    (try (have c50b3 : ¬ ((x6_1 == 1) = (a0_1 != 0)) := by simpa using c50))
                    clear c50
                    exact absurd (Option.some.inj H) (by rw [hr]; decide)
                · rw [if_neg c49] at H
                  have c49b0 : (x5_1 == 1) = false := beq_eq_false_iff_ne.mpr c49
                  have c49b1 : (x5_1 != 1) = true := bne_iff_ne.mpr c49
                  exact absurd (Option.some.inj H) (by rw [hr]; decide)
              · replace c48 := Bool.eq_false_iff.mpr c48
                subst c48
                rw [if_neg (show ¬ (false = true) by decide)] at H
                exact absurd (Option.some.inj H) (by rw [hr]; decide)
            · rw [if_neg c47] at H
              have c47b0 : decide (a0_1 < 0) = false := decide_eq_false c47
              clear c47
              by_cases c53 : t343 = true
              · subst c53
                rw [if_pos rfl] at H
                by_cases c54 : x5_1 = 0
                · rw [if_pos c54] at H
                  have c54b0 : (x5_1 == 0) = true := beq_iff_eq.mpr c54
                  have c54b1 : (x5_1 != 0) = false := bne_eq_false_iff_eq.mpr c54
                  clear c54
                  by_cases c55 : ((x6_1 == 1) == (a0_1 != 0)) = true
                  · rw [if_pos c55] at H
                    have c55b0 : ((x6_1 == 1) == (a0_1 != 0)) = true := c55
                    (try (have c55b1 : decide ((x6_1 == 1) = (a0_1 != 0)) = true := by simpa using c55))
                    (try (have c55b2 : ((x6_1 == 1) == (a0_1 != 0)) = true := by simpa using c55))
                    clear c55
                    by_cases c56 : x6_1 ≤ 1
                    · rw [if_pos c56] at H
                      have c56b0 : decide (x6_1 ≤ 1) = true := decide_eq_true c56
                      clear c56
                      clear hr
                      obtain rfl := Option.some.inj H
                      have hcz57_0 : wr.cell? ⟨gb342, 0, none⟩ = some (.int .i64 a0_0) := (blk_cell BK342.out 0).trans rfl
                      have hcz57_1 : wr.cell? ⟨gb342, 1, none⟩ = some (.int .i64 a0_1) := (blk_cell BK342.out 1).trans rfl
                      have hfz57_0 := blk_frozen BK342.out 0
                      have hfz57_1 := blk_frozen BK342.out 1
                      go_wp2
                      go_ret
                      exact ⟨by first | rfl | (simp [errW_none, errW_some] <;> rfl) | (simp [*, errW_none, errW_some] <;> rfl) | (simp [errW_none, errW_some, bne_nil_, beq_nil_]; done) | (simp [*, errW_none, errW_some, bne_nil_, beq_nil_]; done), by repeat (first | (with_reducible first | exact HB.out | apply below_alloc | apply pw_below_drewN | apply below_drew1 | refine below_set ?_ GE342.out) | exact HB.out)⟩
                    · rw [if_neg c56] at H
                      have c56b0 : decide (x6_1 ≤ 1) = false := decide_eq_false c56
                      clear c56
                      exact absurd (Option.some.inj H) (by rw [hr]; decide)
                  · rw [if_neg c55] at H
                    have c55b0 : ((x6_1 == 1) == (a0_1 != 0)) = false := by simpa using c55
                    (try (have c55b1 : decide ((x6_1 == 1) = (a0_1 != 0)) = false := by simpa using c55))
                    (try (have c55b2 : ((x6_1 == 1) == (a0_1 != 0)) = false := by simpa using c55))
                    (try (have c55b3 : ¬ ((x6_1 == 1) = (a0_1 != 0)) := by simpa using c55))
                    clear c55
                    exact absurd (Option.some.inj H) (by rw [hr]; decide)
                · rw [if_neg c54] at H
                  have c54b0 : (x5_1 == 0) = false := beq_eq_false_iff_ne.mpr c54
                  have c54b1 : (x5_1 != 0) = true := bne_iff_ne.mpr c54
                  exact absurd (Option.some.inj H) (by rw [hr]; decide)
              · replace c53 := Bool.eq_false_iff.mpr c53
                subst c53
                rw [if_neg (show ¬ (false = true) by decide)] at H
                exact absurd (Option.some.inj H) (by rw [hr]; decide)

end Go.Proofs.YtnpkjakkjfjikaaDoor.All
