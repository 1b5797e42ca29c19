-- Written for this claim by wip/tools/gprint.py out of the translation (it drives the kit's print). Lean checks it.
import Derived.Test.YtnpkjakkjfjikaaDoorAll0
import Derived.Test.YtnpkjakkjfjikaaDoorAll1
import Derived.Test.YtnpkjakkjfjikaaDoorAll8
import Derived.Test.YtnpkjakkjfjikaaDoorAll13
namespace Go.Proofs.YtnpkjakkjfjikaaDoor.All
open Go.RowKit Go.Proofs.YtnpkjakkjfjikaaDoorW.PrintWords Go.Proofs.YtnpkjakkjfjikaaDoorW.PrintLast Go.Proofs.YtnpkjakkjfjikaaDoorW.PrintMore Go.Proofs.YtnpkjakkjfjikaaDoor.G
attribute [local go_sem] max2_int min2_int max_two min_two max_three min_three max_four min_four str_leq str_gtr str_geq   -- for this text's walks alone
set_option linter.unusedVariables false
set_option linter.unusedSimpArgs false

attribute [local go_sem high] eqA23
/-! ### deckleref06_Compare: function 23 -/
mutual
def deckleref06_Compare.j0 : Nat → Int → Int → Int → Int → Option (Int)
  | 0, _, _, _, _ => none
  | k + 1, x237000, x237001, x238000, x238001 => (deckleref06_Right.f k x238000 x238001).bind fun t239 => (if t239 = true then (deckleref06_Compare.j1 k x237000 x237001 x238000 x238001) else (deckleref06_Compare.j1 k x237000 x237001 0 0))
def deckleref06_Compare.j1 : Nat → Int → Int → Int → Int → Option (Int)
  | 0, _, _, _, _ => none
  | k + 1, x237000, x237001, x238000, x238001 => if (x237000 == x238000 && (x237001 == x238001)) = true then (some 0) else (if x237000 < 0 then (deckleref06_Compare.j2 k (decide (x238000 < 0)) x237000 x237001 x238000 x238001) else (deckleref06_Compare.j2 k false x237000 x237001 x238000 x238001))
def deckleref06_Compare.j2 : Nat → Bool → Int → Int → Int → Int → Option (Int)
  | 0, _, _, _, _, _ => none
  | k + 1, x20, x237000, x237001, x238000, x238001 => if x20 = true then ((deckleref06_more.f k x238000 x238001 x237000 x237001).bind fun t240 => (if t240 = true then (some 1) else (some (-1)))) else (if x237000 < 0 then (deckleref06_Compare.j3 k true x237000 x237001 x238000 x238001) else (deckleref06_Compare.j3 k (decide (x238000 < 0)) x237000 x237001 x238000 x238001))
def deckleref06_Compare.j3 : Nat → Bool → Int → Int → Int → Int → Option (Int)
  | 0, _, _, _, _, _ => none
  | k + 1, x32, x237000, x237001, x238000, x238001 => if x32 = true then (if x238000 < 0 then (some 1) else (some (-1))) else (if x237000 = 0 then (deckleref06_Compare.j4 k true x237000 x237001 x238000 x238001) else (deckleref06_Compare.j4 k (x238000 == 0) x237000 x237001 x238000 x238001))
def deckleref06_Compare.j4 : Nat → Bool → Int → Int → Int → Int → Option (Int)
  | 0, _, _, _, _, _ => none
  | k + 1, x44, x237000, x237001, x238000, x238001 => if x44 = true then (if x238000 = 0 then (some 1) else (some (-1))) else ((deckleref06_more.f k x237000 x237001 x238000 x238001).bind fun t241 => (if t241 = true then (some 1) else (some (-1))))
end
def deckleref06_Compare.f (k : Nat) (a0_0 : Int) (a0_1 : Int) (a1_0 : Int) (a1_1 : Int) : Option (Int) := (deckleref06_Right.f k a0_0 a0_1).bind fun t238 => (if t238 = true then (deckleref06_Compare.j0 k a0_0 a0_1 a1_0 a1_1) else (deckleref06_Compare.j0 k 0 0 a1_0 a1_1))
theorem deckleref06_Compare.mono_l : ∀ k, (∀ y0 y1 y2 y3, LeO (deckleref06_Compare.j0 k y0 y1 y2 y3) (deckleref06_Compare.j0 (k + 1) y0 y1 y2 y3)) ∧ (∀ y0 y1 y2 y3, LeO (deckleref06_Compare.j1 k y0 y1 y2 y3) (deckleref06_Compare.j1 (k + 1) y0 y1 y2 y3)) ∧ (∀ y0 y1 y2 y3 y4, LeO (deckleref06_Compare.j2 k y0 y1 y2 y3 y4) (deckleref06_Compare.j2 (k + 1) y0 y1 y2 y3 y4)) ∧ (∀ y0 y1 y2 y3 y4, LeO (deckleref06_Compare.j3 k y0 y1 y2 y3 y4) (deckleref06_Compare.j3 (k + 1) y0 y1 y2 y3 y4)) ∧ (∀ y0 y1 y2 y3 y4, LeO (deckleref06_Compare.j4 k y0 y1 y2 y3 y4) (deckleref06_Compare.j4 (k + 1) y0 y1 y2 y3 y4))
  | 0 => ⟨fun _ _ _ _ r h => by simp [deckleref06_Compare.j0] at h, fun _ _ _ _ r h => by simp [deckleref06_Compare.j1] at h, fun _ _ _ _ _ r h => by simp [deckleref06_Compare.j2] at h, fun _ _ _ _ _ r h => by simp [deckleref06_Compare.j3] at h, fun _ _ _ _ _ r h => by simp [deckleref06_Compare.j4] at h⟩
  | k + 1 => by
    obtain ⟨ih0, ih1, ih2, ih3, ih4⟩ := deckleref06_Compare.mono_l k
    refine ⟨?_, ?_, ?_, ?_, ?_⟩
    · intro y0 y1 y2 y3
      unfold deckleref06_Compare.j0
      repeat' first
      | (with_reducible exact ih0 _ _ _ _)
      | (with_reducible exact ih1 _ _ _ _)
      | (with_reducible exact ih2 _ _ _ _ _)
      | (with_reducible exact ih3 _ _ _ _ _)
      | (with_reducible exact ih4 _ _ _ _ _)
      | (with_reducible exact deckleref06_Right.mono _ _ _)
      | (with_reducible exact deckleref06_more.mono _ _ _ _ _)
      | (with_reducible exact LeO.refl _)
      | (with_reducible exact LeO.none _)
      | (with_reducible refine LeO.ite ?_ ?_)
      | (with_reducible refine LeO.bind ?_ (fun _ => ?_))
      | exact ih0 _ _ _ _
      | exact ih1 _ _ _ _
      | exact ih2 _ _ _ _ _
      | exact ih3 _ _ _ _ _
      | exact ih4 _ _ _ _ _
      | exact deckleref06_Right.mono _ _ _
      | exact deckleref06_more.mono _ _ _ _ _
      | exact LeO.none _
      | refine LeO.ite ?_ ?_
      | refine LeO.bind ?_ (fun _ => ?_)
    · intro y0 y1 y2 y3
      unfold deckleref06_Compare.j1
      repeat' first
      | (with_reducible exact ih0 _ _ _ _)
      | (with_reducible exact ih1 _ _ _ _)
      | (with_reducible exact ih2 _ _ _ _ _)
      | (with_reducible exact ih3 _ _ _ _ _)
      | (with_reducible exact ih4 _ _ _ _ _)
      | (with_reducible exact deckleref06_Right.mono _ _ _)
      | (with_reducible exact deckleref06_more.mono _ _ _ _ _)
      | (with_reducible exact LeO.refl _)
      | (with_reducible exact LeO.none _)
      | (with_reducible refine LeO.ite ?_ ?_)
      | (with_reducible refine LeO.bind ?_ (fun _ => ?_))
      | exact ih0 _ _ _ _
      | exact ih1 _ _ _ _
      | exact ih2 _ _ _ _ _
      | exact ih3 _ _ _ _ _
      | exact ih4 _ _ _ _ _
      | exact deckleref06_Right.mono _ _ _
      | exact deckleref06_more.mono _ _ _ _ _
      | exact LeO.none _
      | refine LeO.ite ?_ ?_
      | refine LeO.bind ?_ (fun _ => ?_)
    · intro y0 y1 y2 y3 y4
      unfold deckleref06_Compare.j2
      repeat' first
      | (with_reducible exact ih0 _ _ _ _)
      | (with_reducible exact ih1 _ _ _ _)
      | (with_reducible exact ih2 _ _ _ _ _)
      | (with_reducible exact ih3 _ _ _ _ _)
      | (with_reducible exact ih4 _ _ _ _ _)
      | (with_reducible exact deckleref06_Right.mono _ _ _)
      | (with_reducible exact deckleref06_more.mono _ _ _ _ _)
      | (with_reducible exact LeO.refl _)
      | (with_reducible exact LeO.none _)
      | (with_reducible refine LeO.ite ?_ ?_)
      | (with_reducible refine LeO.bind ?_ (fun _ => ?_))
      | exact ih0 _ _ _ _
      | exact ih1 _ _ _ _
      | exact ih2 _ _ _ _ _
      | exact ih3 _ _ _ _ _
      | exact ih4 _ _ _ _ _
      | exact deckleref06_Right.mono _ _ _
      | exact deckleref06_more.mono _ _ _ _ _
      | exact LeO.none _
      | refine LeO.ite ?_ ?_
      | refine LeO.bind ?_ (fun _ => ?_)
    · intro y0 y1 y2 y3 y4
      unfold deckleref06_Compare.j3
      repeat' first
      | (with_reducible exact ih0 _ _ _ _)
      | (with_reducible exact ih1 _ _ _ _)
      | (with_reducible exact ih2 _ _ _ _ _)
      | (with_reducible exact ih3 _ _ _ _ _)
      | (with_reducible exact ih4 _ _ _ _ _)
      | (with_reducible exact deckleref06_Right.mono _ _ _)
      | (with_reducible exact deckleref06_more.mono _ _ _ _ _)
      | (with_reducible exact LeO.refl _)
      | (with_reducible exact LeO.none _)
      | (with_reducible refine LeO.ite ?_ ?_)
      | (with_reducible refine LeO.bind ?_ (fun _ => ?_))
      | exact ih0 _ _ _ _
      | exact ih1 _ _ _ _
      | exact ih2 _ _ _ _ _
      | exact ih3 _ _ _ _ _
      | exact ih4 _ _ _ _ _
      | exact deckleref06_Right.mono _ _ _
      | exact deckleref06_more.mono _ _ _ _ _
      | exact LeO.none _
      | refine LeO.ite ?_ ?_
      | refine LeO.bind ?_ (fun _ => ?_)
    · intro y0 y1 y2 y3 y4
      unfold deckleref06_Compare.j4
      repeat' first
      | (with_reducible exact ih0 _ _ _ _)
      | (with_reducible exact ih1 _ _ _ _)
      | (with_reducible exact ih2 _ _ _ _ _)
      | (with_reducible exact ih3 _ _ _ _ _)
      | (with_reducible exact ih4 _ _ _ _ _)
      | (with_reducible exact deckleref06_Right.mono _ _ _)
      | (with_reducible exact deckleref06_more.mono _ _ _ _ _)
      | (with_reducible exact LeO.refl _)
      | (with_reducible exact LeO.none _)
      | (with_reducible refine LeO.ite ?_ ?_)
      | (with_reducible refine LeO.bind ?_ (fun _ => ?_))
      | exact ih0 _ _ _ _
      | exact ih1 _ _ _ _
      | exact ih2 _ _ _ _ _
      | exact ih3 _ _ _ _ _
      | exact ih4 _ _ _ _ _
      | exact deckleref06_Right.mono _ _ _
      | exact deckleref06_more.mono _ _ _ _ _
      | exact LeO.none _
      | refine LeO.ite ?_ ?_
      | refine LeO.bind ?_ (fun _ => ?_)
theorem deckleref06_Compare.mono : ∀ a0 a1 a2 a3 k, LeO (deckleref06_Compare.f k a0 a1 a2 a3) (deckleref06_Compare.f (k + 1) a0 a1 a2 a3) := by
  intro a0 a1 a2 a3 k
  obtain ⟨ih0, ih1, ih2, ih3, ih4⟩ := deckleref06_Compare.mono_l k
  unfold deckleref06_Compare.f
  repeat' first
      | (with_reducible exact ih0 _ _ _ _)
      | (with_reducible exact ih1 _ _ _ _)
      | (with_reducible exact ih2 _ _ _ _ _)
      | (with_reducible exact ih3 _ _ _ _ _)
      | (with_reducible exact ih4 _ _ _ _ _)
      | (with_reducible exact deckleref06_Right.mono _ _ _)
      | (with_reducible exact deckleref06_more.mono _ _ _ _ _)
      | (with_reducible exact LeO.refl _)
      | (with_reducible exact LeO.none _)
      | (with_reducible refine LeO.ite ?_ ?_)
      | (with_reducible refine LeO.bind ?_ (fun _ => ?_))
      | exact ih0 _ _ _ _
      | exact ih1 _ _ _ _
      | exact ih2 _ _ _ _ _
      | exact ih3 _ _ _ _ _
      | exact ih4 _ _ _ _ _
      | exact deckleref06_Right.mono _ _ _
      | exact deckleref06_more.mono _ _ _ _ _
      | exact LeO.none _
      | refine LeO.ite ?_ ?_
      | refine LeO.bind ?_ (fun _ => ?_)
set_option maxHeartbeats 8000000 in
set_option maxRecDepth 100000 in
theorem deckleref06_Compare.calls (k : Nat) (a0_0 : Int) (a0_1 : Int) (a1_0 : Int) (a1_1 : Int) (r : Int) (w : World) (hT : Tabs w) (h : deckleref06_Compare.f k a0_0 a0_1 a1_0 a1_1 = some r) :
    Calls Tryd.prog 23 #[.agg #[.int .i64 a0_0, .int .i64 a0_1], .agg #[.int .i64 a1_0, .int .i64 a1_1]] w fun e w' => e = .returned (.int .i64 r) ∧ Below w.heap.size w w' := by
  have hu23 := Tryd.underlying23
  have HB := Aside0.mk (Below.refl w.heap.size w)
  have H : ((deckleref06_Right.f k a0_0 a0_1).bind fun t238 => (if t238 = true then (deckleref06_Compare.j0 k a0_0 a0_1 a1_0 a1_1) else (deckleref06_Compare.j0 k 0 0 a1_0 a1_1))) = some r := h
  clear h
  replace H := Option.bind_eq_some_iff.mp H
  obtain ⟨t238, A30, H⟩ := H
  have A3 := Aside0.mk A30; clear A30
  have HC4 := Aside0.mk H
  clear H
  go_enter Tryd.func23, Tryd.ntmps23
  go_upto_if 8 with (first | ((with_reducible refine gate_dst (N := 2) rfl ?_); refine box_event ?hg (N := 2) ?hd (cs := #[.int .i64 a0_0, .int .i64 a0_1]) (t := 23) ?hr ?_; (case hd => rfl); (case hg => rfl); (case hr => first | (go_simp; done) | (go_simp; rfl)); intro gb236 hg w5 hbox hb; have n0_ := Aside0.mk (below_step (by repeat (first | (with_reducible first | exact HB.out | apply below_alloc | apply pw_below_drewN | apply below_drew1) | exact HB.out)) hb); have n1_ := Aside0.mk (hbox); have n2_ := Aside0.mk ((by rw [hg]; exact (below_size (by repeat (first | (with_reducible first | exact HB.out | apply below_alloc | apply pw_below_drewN | apply below_drew1) | exact HB.out))) : w.heap.size ≤ gb236)); have n3_ := Aside0.mk ((by rw [hg]; exact (below_size (by repeat (first | (with_reducible first | exact HB.out | apply below_alloc | apply pw_below_drewN | apply below_drew1) | exact HB.out))) : w.heap.size ≤ gb236)); clear HB; have HB := n0_; have BK236 := n1_; have GW236 := n2_; have GE236 := n3_; clear n0_ n1_ n2_ n3_; clear hb hbox hg) | ((with_reducible refine gate_dst (N := 3) rfl ?_); refine box_event ?hg (N := 3) ?hd (cs := #[.int .i64 a1_0, .int .i64 a1_1]) (t := 23) ?hr ?_; (case hd => rfl); (case hg => rfl); (case hr => first | (go_simp; done) | (go_simp; rfl)); intro gb237 hg w6 hbox hb; have n0_ := Aside0.mk (blk_below (g := gb236) (o := .cells #[.int .i64 a0_0, .int .i64 a0_1] 23 (0, 0)) (by (with_reducible repeat (first | refine blk_drewN ?_ _ | refine blk_drew ?_ | refine blk_alloc ?_ _)); exact BK236.out) hb); have n1_ := Aside0.mk (below_step (by repeat (first | (with_reducible first | exact HB.out | apply below_alloc | apply pw_below_drewN | apply below_drew1 | refine below_set ?_ GE236.out) | exact HB.out)) hb); have n2_ := Aside0.mk (hbox); have n3_ := Aside0.mk ((by rw [hg]; exact (below_size (by repeat (first | (with_reducible first | exact HB.out | apply below_alloc | apply pw_below_drewN | apply below_drew1 | refine below_set ?_ GE236.out) | exact HB.out))) : w.heap.size ≤ gb237)); have n4_ := Aside0.mk ((by rw [hg]; exact (below_size (by repeat (first | (with_reducible first | exact HB.out | apply below_alloc | apply pw_below_drewN | apply below_drew1 | refine below_set ?_ GE236.out) | exact HB.out))) : w.heap.size ≤ gb237)); have n5_ := Aside0.mk ((by rw [hg]; exact Nat.ne_of_lt (blk_lt (g := gb236) (o := .cells #[.int .i64 a0_0, .int .i64 a0_1] 23 (0, 0)) (by (with_reducible repeat (first | refine blk_drewN ?_ _ | refine blk_drew ?_ | refine blk_alloc ?_ _)); exact BK236.out)) : gb236 ≠ gb237)); have n6_ := Aside0.mk ((by rw [hg]; exact Nat.ne_of_gt (blk_lt (g := gb236) (o := .cells #[.int .i64 a0_0, .int .i64 a0_1] 23 (0, 0)) (by (with_reducible repeat (first | refine blk_drewN ?_ _ | refine blk_drew ?_ | refine blk_alloc ?_ _)); exact BK236.out)) : gb237 ≠ gb236)); clear BK236; clear HB; have BK236 := n0_; have HB := n1_; have BK237 := n2_; have GW237 := n3_; have GE237 := n4_; have NB236_237 := n5_; have NB237_236 := n6_; clear n0_ n1_ n2_ n3_ n4_ n5_ n6_; clear hb hbox hg; have hnb7 := NB236_237.out; have hnc7 := NB237_236.out; have hcz8_0 : w6.cell? ⟨gb236, 0, none⟩ = some (.int .i64 a0_0) := (blk_cell BK236.out 0).trans rfl; have hcz8_1 : w6.cell? ⟨gb236, 1, none⟩ = some (.int .i64 a0_1) := (blk_cell BK236.out 1).trans rfl; have hfz8_0 := blk_frozen BK236.out 0; have hfz8_1 := blk_frozen BK236.out 1) | ((with_reducible refine gate_callee (f := 17) rfl ?_); refine goesL_ (some 7) rfl rfl Tryd.func17 (by kernel_rfl) rfl #[.agg #[.int .i64 a0_0, .int .i64 a0_1]] rfl (by (try simp only [List.map_toArray, List.map_cons, List.map_nil]); first | done | rfl | (simp only [List.length_drop, List.length_take]; rfl)) ?_; (with_reducible refine (deckleref06_Right.calls k a0_0 a0_1 t238 _ ?side1 A3.out).mono ?_); (case side1 => first | exact hT | exact Tabs.below hT (by repeat (first | (with_reducible first | exact HB.out | apply below_alloc | apply pw_below_drewN | apply below_drew1 | refine below_set ?_ GE236.out | refine below_set ?_ GE237.out) | exact HB.out)) | ((repeat (first | exact hT | apply Tabs.drewN | apply Tabs.drew)); done)); rintro e w9 ⟨rfl, hb⟩; refine ⟨_, rfl, ?_⟩; have n0_ := Aside0.mk (blk_below (g := gb236) (o := .cells #[.int .i64 a0_0, .int .i64 a0_1] 23 (0, 0)) (by (with_reducible repeat (first | refine blk_drewN ?_ _ | refine blk_drew ?_ | refine blk_alloc ?_ _)); exact BK236.out) hb); have n1_ := Aside0.mk (blk_below (g := gb237) (o := .cells #[.int .i64 a1_0, .int .i64 a1_1] 23 (0, 0)) (by (with_reducible repeat (first | refine blk_drewN ?_ _ | refine blk_drew ?_ | refine blk_alloc ?_ _)); exact BK237.out) hb); have n2_ := Aside0.mk (below_step (by repeat (first | (with_reducible first | exact HB.out | apply below_alloc | apply pw_below_drewN | apply below_drew1 | refine below_set ?_ GE236.out | refine below_set ?_ GE237.out) | exact HB.out)) hb); clear BK236; clear BK237; clear HB; have BK236 := n0_; have BK237 := n1_; have HB := n2_; clear n0_ n1_ n2_; (try clear hb); (try clear hb2); (try clear hk); (try clear hi)))
  (try simp only [Act.put, List.setIfInBounds_toArray, List.set_cons_zero, List.set_cons_succ])
  go_cut [] (fun wc => ∃ (kq : Nat) (x237000_3 : Int) (x237001_3 : Int), Aside0 (deckleref06_Compare.j0 kq x237000_3 x237001_3 a1_0 a1_1 = some r) ∧ Aside0 (kq ≤ k) ∧ Aside0 (wc.heap[gb236]? = some (.cells #[.int .i64 x237000_3, .int .i64 x237001_3] 23 (0, 0))) ∧ Aside0 (wc.heap[gb237]? = some (.cells #[.int .i64 a1_0, .int .i64 a1_1] 23 (0, 0))) ∧ Aside0 (Below w.heap.size w wc))
  case first =>
    have H := HC4.out
    clear HC4
    by_cases c10 : t238 = true
    · subst c10
      rw [if_pos rfl] at H
      have H' := Aside0.mk H
      clear H
      go_wp2
      go_meet
      case rel => exact ⟨_, (a0_0), (a0_1), H', ⟨by first | omega | exact Nat.le_refl _⟩, ⟨by (with_reducible repeat (first | refine blk_drewN ?_ _ | refine blk_drew ?_ | refine blk_alloc ?_ _)); exact BK236.out⟩, ⟨by (with_reducible repeat (first | refine blk_drewN ?_ _ | refine blk_drew ?_ | refine blk_alloc ?_ _)); exact BK237.out⟩, ⟨by repeat (first | (with_reducible first | exact HB.out | apply below_alloc | apply pw_below_drewN | apply below_drew1 | refine below_set ?_ GE236.out | refine below_set ?_ GE237.out) | exact HB.out)⟩⟩
    · replace c10 := Bool.eq_false_iff.mpr c10
      subst c10
      rw [if_neg (show ¬ (false = true) by decide)] at H
      have H' := Aside0.mk H
      clear H
      have hnb11 := NB236_237.out
      have hnc11 := NB237_236.out
      have hcz12_0 : w9.cell? ⟨gb236, 0, none⟩ = some (.int .i64 a0_0) := (blk_cell BK236.out 0).trans rfl
      have hcz12_1 : w9.cell? ⟨gb236, 1, none⟩ = some (.int .i64 a0_1) := (blk_cell BK236.out 1).trans rfl
      have hfz12_0 := blk_frozen BK236.out 0
      have hfz12_1 := blk_frozen BK236.out 1
      go_wp2
      go_meet
      case rel => exact ⟨_, (0), (0), H', ⟨by first | omega | exact Nat.le_refl _⟩, ⟨by (with_reducible repeat (first | refine blk_drewN ?_ _ | refine blk_drew ?_ | refine blk_alloc ?_ _)); refine blk_put (cs := #[.int .i64 0, .int .i64 a0_1]) ?_ 1 _ rfl; (with_reducible repeat (first | refine blk_drewN ?_ _ | refine blk_drew ?_ | refine blk_alloc ?_ _)); refine blk_put (cs := #[.int .i64 a0_0, .int .i64 a0_1]) ?_ 0 _ rfl; (with_reducible repeat (first | refine blk_drewN ?_ _ | refine blk_drew ?_ | refine blk_alloc ?_ _)); exact BK236.out⟩, ⟨by (with_reducible repeat (first | refine blk_drewN ?_ _ | refine blk_drew ?_ | refine blk_alloc ?_ _)); refine blk_far ?_ NB237_236.out _; (with_reducible repeat (first | refine blk_drewN ?_ _ | refine blk_drew ?_ | refine blk_alloc ?_ _)); refine blk_far ?_ NB237_236.out _; (with_reducible repeat (first | refine blk_drewN ?_ _ | refine blk_drew ?_ | refine blk_alloc ?_ _)); exact BK237.out⟩, ⟨by repeat (first | (with_reducible first | exact HB.out | apply below_alloc | apply pw_below_drewN | apply below_drew1 | refine below_set ?_ GE236.out | refine below_set ?_ GE237.out) | exact HB.out)⟩⟩
  case rest =>
    clear HC4
    try clear c1
    try clear c2
    try clear p2
    try clear c7
    try clear c10
    try clear c11
    try clear hcz12_0
    try clear hcz12_1
    try clear hcz8_0
    try clear hcz8_1
    try clear hfz12_0
    try clear hfz12_1
    try clear hfz8_0
    try clear hfz8_1
    obtain ⟨kq, x237000_3, x237001_3, HA, HJ3, BK236, BK237, HB⟩ := hcut
    cases kq with
    | zero => exact absurd HA.out (by simp [deckleref06_Compare.j0])
    | succ kj3 =>
      have H := HA.out
      clear HA
      simp only [deckleref06_Compare.j0] at H
      replace H := Option.bind_eq_some_iff.mp H
      obtain ⟨t239, A130, H⟩ := H
      have A13 := Aside0.mk A130; clear A130
      have HC14 := Aside0.mk H
      clear H
      have hnb15 := NB237_236.out
      have hnc15 := NB236_237.out
      have hcz16_0 : wc.cell? ⟨gb237, 0, none⟩ = some (.int .i64 a1_0) := (blk_cell BK237.out 0).trans rfl
      have hcz16_1 : wc.cell? ⟨gb237, 1, none⟩ = some (.int .i64 a1_1) := (blk_cell BK237.out 1).trans rfl
      have hfz16_0 := blk_frozen BK237.out 0
      have hfz16_1 := blk_frozen BK237.out 1
      go_upto_if 12 with (first | ((with_reducible refine gate_callee (f := 17) rfl ?_); refine goesL_ (some 11) rfl rfl Tryd.func17 (by kernel_rfl) rfl #[.agg #[.int .i64 a1_0, .int .i64 a1_1]] rfl (by (try simp only [List.map_toArray, List.map_cons, List.map_nil]); first | done | rfl | (simp only [List.length_drop, List.length_take]; rfl)) ?_; (with_reducible refine (deckleref06_Right.calls kj3 a1_0 a1_1 t239 _ ?side1 A13.out).mono ?_); (case side1 => first | exact hT | exact Tabs.below hT (by repeat (first | (with_reducible first | exact HB.out | apply below_alloc | apply pw_below_drewN | apply below_drew1 | refine below_set ?_ GE236.out | refine below_set ?_ GE237.out) | exact HB.out)) | ((repeat (first | exact hT | apply Tabs.drewN | apply Tabs.drew)); done)); rintro e w17 ⟨rfl, hb⟩; refine ⟨_, rfl, ?_⟩; have n0_ := Aside0.mk (blk_below (g := gb236) (o := .cells #[.int .i64 x237000_3, .int .i64 x237001_3] 23 (0, 0)) (by (with_reducible repeat (first | refine blk_drewN ?_ _ | refine blk_drew ?_ | refine blk_alloc ?_ _)); exact BK236.out) hb); have n1_ := Aside0.mk (blk_below (g := gb237) (o := .cells #[.int .i64 a1_0, .int .i64 a1_1] 23 (0, 0)) (by (with_reducible repeat (first | refine blk_drewN ?_ _ | refine blk_drew ?_ | refine blk_alloc ?_ _)); exact BK237.out) hb); have n2_ := Aside0.mk (below_step (by repeat (first | (with_reducible first | exact HB.out | apply below_alloc | apply pw_below_drewN | apply below_drew1 | refine below_set ?_ GE236.out | refine below_set ?_ GE237.out) | exact HB.out)) hb); clear BK236; clear BK237; clear HB; have BK236 := n0_; have BK237 := n1_; have HB := n2_; clear n0_ n1_ n2_; (try clear hb); (try clear hb2); (try clear hk); (try clear hi)))
      (try simp only [Act.put, List.setIfInBounds_toArray, List.set_cons_zero, List.set_cons_succ])
      go_cut [] (fun wc => ∃ (kq : Nat) (x238000_13 : Int) (x238001_13 : Int), Aside0 (deckleref06_Compare.j1 kq x237000_3 x237001_3 x238000_13 x238001_13 = some r) ∧ Aside0 (kq ≤ kj3) ∧ Aside0 (wc.heap[gb236]? = some (.cells #[.int .i64 x237000_3, .int .i64 x237001_3] 23 (0, 0))) ∧ Aside0 (wc.heap[gb237]? = some (.cells #[.int .i64 x238000_13, .int .i64 x238001_13] 23 (0, 0))) ∧ Aside0 (Below w.heap.size w wc))
      case first =>
        have H := HC14.out
        clear HC14
        by_cases c18 : t239 = true
        · subst c18
          rw [if_pos rfl] at H
          have H' := Aside0.mk H
          clear H
          go_wp2
          go_meet
          case rel => exact ⟨_, (a1_0), (a1_1), H', ⟨by have := HJ3.out; first | omega | exact Nat.le_refl _⟩, ⟨by (with_reducible repeat (first | refine blk_drewN ?_ _ | refine blk_drew ?_ | refine blk_alloc ?_ _)); exact BK236.out⟩, ⟨by (with_reducible repeat (first | refine blk_drewN ?_ _ | refine blk_drew ?_ | refine blk_alloc ?_ _)); exact BK237.out⟩, ⟨by repeat (first | (with_reducible first | exact HB.out | apply below_alloc | apply pw_below_drewN | apply below_drew1 | refine below_set ?_ GE236.out | refine below_set ?_ GE237.out) | exact HB.out)⟩⟩
        · replace c18 := Bool.eq_false_iff.mpr c18
          subst c18
          rw [if_neg (show ¬ (false = true) by decide)] at H
          have H' := Aside0.mk H
          clear H
          have hnb19 := NB237_236.out
          have hnc19 := NB236_237.out
          have hcz20_0 : w17.cell? ⟨gb237, 0, none⟩ = some (.int .i64 a1_0) := (blk_cell BK237.out 0).trans rfl
          have hcz20_1 : w17.cell? ⟨gb237, 1, none⟩ = some (.int .i64 a1_1) := (blk_cell BK237.out 1).trans rfl
          have hfz20_0 := blk_frozen BK237.out 0
          have hfz20_1 := blk_frozen BK237.out 1
          go_wp2
          go_meet
          case rel => exact ⟨_, (0), (0), H', ⟨by have := HJ3.out; first | omega | exact Nat.le_refl _⟩, ⟨by (with_reducible repeat (first | refine blk_drewN ?_ _ | refine blk_drew ?_ | refine blk_alloc ?_ _)); refine blk_far ?_ NB236_237.out _; (with_reducible repeat (first | refine blk_drewN ?_ _ | refine blk_drew ?_ | refine blk_alloc ?_ _)); refine blk_far ?_ NB236_237.out _; (with_reducible repeat (first | refine blk_drewN ?_ _ | refine blk_drew ?_ | refine blk_alloc ?_ _)); exact BK236.out⟩, ⟨by (with_reducible repeat (first | refine blk_drewN ?_ _ | refine blk_drew ?_ | refine blk_alloc ?_ _)); refine blk_put (cs := #[.int .i64 0, .int .i64 a1_1]) ?_ 1 _ rfl; (with_reducible repeat (first | refine blk_drewN ?_ _ | refine blk_drew ?_ | refine blk_alloc ?_ _)); refine blk_put (cs := #[.int .i64 a1_0, .int .i64 a1_1]) ?_ 0 _ rfl; (with_reducible repeat (first | refine blk_drewN ?_ _ | refine blk_drew ?_ | refine blk_alloc ?_ _)); exact BK237.out⟩, ⟨by repeat (first | (with_reducible first | exact HB.out | apply below_alloc | apply pw_below_drewN | apply below_drew1 | refine below_set ?_ GE236.out | refine below_set ?_ GE237.out) | exact HB.out)⟩⟩
      case rest =>
        clear HC14
        try clear c1
        try clear c2
        try clear p2
        try clear c7
        try clear c10
        try clear c11
        try clear c15
        try clear c17
        try clear c18
        try clear c19
        try clear hcz12_0
        try clear hcz12_1
        try clear hcz16_0
        try clear hcz16_1
        try clear hcz20_0
        try clear hcz20_1
        try clear hcz8_0
        try clear hcz8_1
        try clear hfz12_0
        try clear hfz12_1
        try clear hfz16_0
        try clear hfz16_1
        try clear hfz20_0
        try clear hfz20_1
        try clear hfz8_0
        try clear hfz8_1
        try clear p2
        obtain ⟨kq, x238000_13, x238001_13, HA, HJ13, BK236, BK237, HB⟩ := hcut
        cases kq with
        | zero => exact absurd HA.out (by simp [deckleref06_Compare.j1])
        | succ kj13 =>
          have H := HA.out
          clear HA
          simp only [deckleref06_Compare.j1] at H
          by_cases c21 : (x237000_3 == x238000_13 && (x237001_3 == x238001_13)) = true
          · rw [if_pos c21] at H
            have c21b0 : (x237000_3 == x238000_13 && (x237001_3 == x238001_13)) = true := c21
            (try (have c21b1 : decide (x237000_3 = x238000_13 && (x237001_3 == x238001_13)) = true := by simpa using c21))
            (try (have c21b2 : (x237000_3 == x238000_13 && (x237001_3 == x238001_13)) = true := by simpa using c21))
            clear c21
            obtain rfl := Option.some.inj H
            have hnb22 := NB236_237.out
            have hnc22 := NB237_236.out
            have hcz23_0 : wc.cell? ⟨gb236, 0, none⟩ = some (.int .i64 x237000_3) := (blk_cell BK236.out 0).trans rfl
            have hcz23_1 : wc.cell? ⟨gb236, 1, none⟩ = some (.int .i64 x237001_3) := (blk_cell BK236.out 1).trans rfl
            have hfz23_0 := blk_frozen BK236.out 0
            have hfz23_1 := blk_frozen BK236.out 1
            have hcz24_0 : wc.cell? ⟨gb237, 0, none⟩ = some (.int .i64 x238000_13) := (blk_cell BK237.out 0).trans rfl
            have hcz24_1 : wc.cell? ⟨gb237, 1, none⟩ = some (.int .i64 x238001_13) := (blk_cell BK237.out 1).trans rfl
            have hfz24_0 := blk_frozen BK237.out 0
            have hfz24_1 := blk_frozen BK237.out 1
            go_wp2
            go_ret
            exact ⟨by first | rfl | (simp [errW_none, errW_some] <;> rfl) | (simp [*, errW_none, errW_some] <;> rfl) | (simp [errW_none, errW_some, bne_nil_, beq_nil_]; done) | (simp [*, errW_none, errW_some, bne_nil_, beq_nil_]; done), by repeat (first | (with_reducible first | exact HB.out | apply below_alloc | apply pw_below_drewN | apply below_drew1 | refine below_set ?_ GE236.out | refine below_set ?_ GE237.out) | exact HB.out)⟩
          · rw [if_neg c21] at H
            have c21b0 : (x237000_3 == x238000_13 && (x237001_3 == x238001_13)) = false := by simpa using c21
            (try (have c21b1 : decide (x237000_3 = x238000_13 && (x237001_3 == x238001_13)) = false := by simpa using c21))
            (try (have c21b2 : (x237000_3 == x238000_13 && (x237001_3 == x238001_13)) = false := by simpa using c21))
            (try (have c21b3 : ¬ (x237000_3 = x238000_13 && (x237001_3 == x238001_13)) := by simpa using c21))
            clear c21
            have HC25 := Aside0.mk H
            clear H
            have hnb26 := NB236_237.out
            have hnc26 := NB237_236.out
            have hcz27_0 : wc.cell? ⟨gb236, 0, none⟩ = some (.int .i64 x237000_3) := (blk_cell BK236.out 0).trans rfl
            have hcz27_1 : wc.cell? ⟨gb236, 1, none⟩ = some (.int .i64 x237001_3) := (blk_cell BK236.out 1).trans rfl
            have hfz27_0 := blk_frozen BK236.out 0
            have hfz27_1 := blk_frozen BK236.out 1
            have hcz28_0 : wc.cell? ⟨gb237, 0, none⟩ = some (.int .i64 x238000_13) := (blk_cell BK237.out 0).trans rfl
            have hcz28_1 : wc.cell? ⟨gb237, 1, none⟩ = some (.int .i64 x238001_13) := (blk_cell BK237.out 1).trans rfl
            have hfz28_0 := blk_frozen BK237.out 0
            have hfz28_1 := blk_frozen BK237.out 1
            go_upto_region 9 with (fail)
            go_cut [20] (fun v20 wc => ∃ (kq : Nat) (x20_24 : Bool), v20 = .bool x20_24 ∧ Aside0 (deckleref06_Compare.j2 kq x20_24 x237000_3 x237001_3 x238000_13 x238001_13 = some r) ∧ Aside0 (kq ≤ kj13) ∧ Aside0 (wc.heap[gb236]? = some (.cells #[.int .i64 x237000_3, .int .i64 x237001_3] 23 (0, 0))) ∧ Aside0 (wc.heap[gb237]? = some (.cells #[.int .i64 x238000_13, .int .i64 x238001_13] 23 (0, 0))) ∧ Aside0 (Below w.heap.size w wc))
            case first =>
              have H := HC25.out
              clear HC25
              by_cases c29 : x237000_3 < 0
              · rw [if_pos c29] at H
                have c29b0 : decide (x237000_3 < 0) = true := decide_eq_true c29
                clear c29
                (first | rw [c29b0] | (simp only [i64_w, i32_w]; rw [c29b0]) | skip)
                have H' := Aside0.mk H
                clear H
                have hnb30 := NB236_237.out
                have hnc30 := NB237_236.out
                have hcz31_0 : wc.cell? ⟨gb236, 0, none⟩ = some (.int .i64 x237000_3) := (blk_cell BK236.out 0).trans rfl
                have hcz31_1 : wc.cell? ⟨gb236, 1, none⟩ = some (.int .i64 x237001_3) := (blk_cell BK236.out 1).trans rfl
                have hfz31_0 := blk_frozen BK236.out 0
                have hfz31_1 := blk_frozen BK236.out 1
                have hcz32_0 : wc.cell? ⟨gb237, 0, none⟩ = some (.int .i64 x238000_13) := (blk_cell BK237.out 0).trans rfl
                have hcz32_1 : wc.cell? ⟨gb237, 1, none⟩ = some (.int .i64 x238001_13) := (blk_cell BK237.out 1).trans rfl
                have hfz32_0 := blk_frozen BK237.out 0
                have hfz32_1 := blk_frozen BK237.out 1
                go_wp2
                go_meet
                case rel => exact ⟨_, (decide (x238000_13 < 0)), (by first | rfl | (simp; done) | (simp [*]; done)), H', ⟨by have := HJ3.out; have := HJ13.out; first | omega | exact Nat.le_refl _⟩, ⟨by (with_reducible repeat (first | refine blk_drewN ?_ _ | refine blk_drew ?_ | refine blk_alloc ?_ _)); exact BK236.out⟩, ⟨by (with_reducible repeat (first | refine blk_drewN ?_ _ | refine blk_drew ?_ | refine blk_alloc ?_ _)); exact BK237.out⟩, ⟨by repeat (first | (with_reducible first | exact HB.out | apply below_alloc | apply pw_below_drewN | apply below_drew1 | refine below_set ?_ GE236.out | refine below_set ?_ GE237.out) | exact HB.out)⟩⟩
              · rw [if_neg c29] at H
                have c29b0 : decide (x237000_3 < 0) = false := decide_eq_false c29
                clear c29
                (first | rw [c29b0] | (simp only [i64_w, i32_w]; rw [c29b0]) | skip)
                have H' := Aside0.mk H
                clear H
                have hnb33 := NB236_237.out
                have hnc33 := NB237_236.out
                have hcz34_0 : wc.cell? ⟨gb236, 0, none⟩ = some (.int .i64 x237000_3) := (blk_cell BK236.out 0).trans rfl
                have hcz34_1 : wc.cell? ⟨gb236, 1, none⟩ = some (.int .i64 x237001_3) := (blk_cell BK236.out 1).trans rfl
                have hfz34_0 := blk_frozen BK236.out 0
                have hfz34_1 := blk_frozen BK236.out 1
                go_wp2
                go_meet
                case rel => exact ⟨_, (false), (by first | rfl | (simp; done) | (simp [*]; done)), H', ⟨by have := HJ3.out; have := HJ13.out; first | omega | exact Nat.le_refl _⟩, ⟨by (with_reducible repeat (first | refine blk_drewN ?_ _ | refine blk_drew ?_ | refine blk_alloc ?_ _)); exact BK236.out⟩, ⟨by (with_reducible repeat (first | refine blk_drewN ?_ _ | refine blk_drew ?_ | refine blk_alloc ?_ _)); exact BK237.out⟩, ⟨by repeat (first | (with_reducible first | exact HB.out | apply below_alloc | apply pw_below_drewN | apply below_drew1 | refine below_set ?_ GE236.out | refine below_set ?_ GE237.out) | exact HB.out)⟩⟩
            case rest =>
              clear HC25
              try clear c1
              try clear c2
              try clear p2
              try clear c3
              try clear c7
              try clear c10
              try clear c11
              try clear c15
              try clear c17
              try clear c18
              try clear c19
              try clear c21
              try clear c21b0
              try clear c21b1
              try clear c21b2
              try clear c22
              try clear c23
              try clear c26
              try clear c29
              try clear c29b0
              try clear c30
              try clear c33
              try clear hcz12_0
              try clear hcz12_1
              try clear hcz16_0
              try clear hcz16_1
              try clear hcz20_0
              try clear hcz20_1
              try clear hcz23_0
              try clear hcz23_1
              try clear hcz24_0
              try clear hcz24_1
              try clear hcz27_0
              try clear hcz27_1
              try clear hcz28_0
              try clear hcz28_1
              try clear hcz31_0
              try clear hcz31_1
              try clear hcz32_0
              try clear hcz32_1
              try clear hcz34_0
              try clear hcz34_1
              try clear hcz8_0
              try clear hcz8_1
              try clear hfz12_0
              try clear hfz12_1
              try clear hfz16_0
              try clear hfz16_1
              try clear hfz20_0
              try clear hfz20_1
              try clear hfz23_0
              try clear hfz23_1
              try clear hfz24_0
              try clear hfz24_1
              try clear hfz27_0
              try clear hfz27_1
              try clear hfz28_0
              try clear hfz28_1
              try clear hfz31_0
              try clear hfz31_1
              try clear hfz32_0
              try clear hfz32_1
              try clear hfz34_0
              try clear hfz34_1
              try clear hfz8_0
              try clear hfz8_1
              try clear p2
              obtain ⟨kq, x20_24, rfl, HA, HJ24, BK236, BK237, HB⟩ := hcut
              cases kq with
              | zero => exact absurd HA.out (by simp [deckleref06_Compare.j2])
              | succ kj24 =>
                have H := HA.out
                clear HA
                simp only [deckleref06_Compare.j2] at H
                by_cases c35 : x20_24 = true
                · subst c35
                  rw [if_pos rfl] at H
                  replace H := Option.bind_eq_some_iff.mp H
                  obtain ⟨t240, A360, H⟩ := H
                  have A36 := Aside0.mk A360; clear A360
                  by_cases c37 : t240 = true
                  · subst c37
                    rw [if_pos rfl] at H
                    obtain rfl := Option.some.inj H
                    have hnb38 := NB237_236.out
                    have hnc38 := NB236_237.out
                    have hcz39_0 : wc.cell? ⟨gb237, 0, none⟩ = some (.int .i64 x238000_13) := (blk_cell BK237.out 0).trans rfl
                    have hcz39_1 : wc.cell? ⟨gb237, 1, none⟩ = some (.int .i64 x238001_13) := (blk_cell BK237.out 1).trans rfl
                    have hfz39_0 := blk_frozen BK237.out 0
                    have hfz39_1 := blk_frozen BK237.out 1
                    have hcz40_0 : wc.cell? ⟨gb236, 0, none⟩ = some (.int .i64 x237000_3) := (blk_cell BK236.out 0).trans rfl
                    have hcz40_1 : wc.cell? ⟨gb236, 1, none⟩ = some (.int .i64 x237001_3) := (blk_cell BK236.out 1).trans rfl
                    have hfz40_0 := blk_frozen BK236.out 0
                    have hfz40_1 := blk_frozen BK236.out 1
                    go_wp2_with (first | ((with_reducible refine gate_callee (f := 31) rfl ?_); refine goesL_ (some 31) rfl rfl Tryd.func31 (by kernel_rfl) rfl #[.agg #[.int .i64 x238000_13, .int .i64 x238001_13], .agg #[.int .i64 x237000_3, .int .i64 x237001_3]] rfl (by (try simp only [List.map_toArray, List.map_cons, List.map_nil]); first | done | rfl | (simp only [List.length_drop, List.length_take]; rfl)) ?_; (with_reducible refine (deckleref06_more.calls kj24 x238000_13 x238001_13 x237000_3 x237001_3 true _ ?side1 A36.out).mono ?_); (case side1 => first | exact hT | exact Tabs.below hT (by repeat (first | (with_reducible first | exact HB.out | apply below_alloc | apply pw_below_drewN | apply below_drew1 | refine below_set ?_ GE236.out | refine below_set ?_ GE237.out) | exact HB.out)) | ((repeat (first | exact hT | apply Tabs.drewN | apply Tabs.drew)); done)); rintro e w41 ⟨rfl, hb⟩; refine ⟨_, rfl, ?_⟩; have n0_ := Aside0.mk (blk_below (g := gb236) (o := .cells #[.int .i64 x237000_3, .int .i64 x237001_3] 23 (0, 0)) (by (with_reducible repeat (first | refine blk_drewN ?_ _ | refine blk_drew ?_ | refine blk_alloc ?_ _)); exact BK236.out) hb); have n1_ := Aside0.mk (blk_below (g := gb237) (o := .cells #[.int .i64 x238000_13, .int .i64 x238001_13] 23 (0, 0)) (by (with_reducible repeat (first | refine blk_drewN ?_ _ | refine blk_drew ?_ | refine blk_alloc ?_ _)); exact BK237.out) hb); have n2_ := Aside0.mk (below_step (by repeat (first | (with_reducible first | exact HB.out | apply below_alloc | apply pw_below_drewN | apply below_drew1 | refine below_set ?_ GE236.out | refine below_set ?_ GE237.out) | exact HB.out)) hb); clear BK236; clear BK237; clear HB; have BK236 := n0_; have BK237 := n1_; have HB := n2_; clear n0_ n1_ n2_; (try clear hb); (try clear hb2); (try clear hk); (try clear hi)))
                    go_ret
                    exact ⟨by first | rfl | (simp [errW_none, errW_some] <;> rfl) | (simp [*, errW_none, errW_some] <;> rfl) | (simp [errW_none, errW_some, bne_nil_, beq_nil_]; done) | (simp [*, errW_none, errW_some, bne_nil_, beq_nil_]; done), by repeat (first | (with_reducible first | exact HB.out | apply below_alloc | apply pw_below_drewN | apply below_drew1 | refine below_set ?_ GE236.out | refine below_set ?_ GE237.out) | exact HB.out)⟩
                  · replace c37 := Bool.eq_false_iff.mpr c37
                    subst c37
                    rw [if_neg (show ¬ (false = true) by decide)] at H
                    obtain rfl := Option.some.inj H
                    have hnb42 := NB237_236.out
                    have hnc42 := NB236_237.out
                    have hcz43_0 : wc.cell? ⟨gb237, 0, none⟩ = some (.int .i64 x238000_13) := (blk_cell BK237.out 0).trans rfl
                    have hcz43_1 : wc.cell? ⟨gb237, 1, none⟩ = some (.int .i64 x238001_13) := (blk_cell BK237.out 1).trans rfl
                    have hfz43_0 := blk_frozen BK237.out 0
                    have hfz43_1 := blk_frozen BK237.out 1
                    have hcz44_0 : wc.cell? ⟨gb236, 0, none⟩ = some (.int .i64 x237000_3) := (blk_cell BK236.out 0).trans rfl
                    have hcz44_1 : wc.cell? ⟨gb236, 1, none⟩ = some (.int .i64 x237001_3) := (blk_cell BK236.out 1).trans rfl
                    have hfz44_0 := blk_frozen BK236.out 0
                    have hfz44_1 := blk_frozen BK236.out 1
                    go_wp2_with (first | ((with_reducible refine gate_callee (f := 31) rfl ?_); refine goesL_ (some 31) rfl rfl Tryd.func31 (by kernel_rfl) rfl #[.agg #[.int .i64 x238000_13, .int .i64 x238001_13], .agg #[.int .i64 x237000_3, .int .i64 x237001_3]] rfl (by (try simp only [List.map_toArray, List.map_cons, List.map_nil]); first | done | rfl | (simp only [List.length_drop, List.length_take]; rfl)) ?_; (with_reducible refine (deckleref06_more.calls kj24 x238000_13 x238001_13 x237000_3 x237001_3 false _ ?side1 A36.out).mono ?_); (case side1 => first | exact hT | exact Tabs.below hT (by repeat (first | (with_reducible first | exact HB.out | apply below_alloc | apply pw_below_drewN | apply below_drew1 | refine below_set ?_ GE236.out | refine below_set ?_ GE237.out) | exact HB.out)) | ((repeat (first | exact hT | apply Tabs.drewN | apply Tabs.drew)); done)); rintro e w45 ⟨rfl, hb⟩; refine ⟨_, rfl, ?_⟩; have n0_ := Aside0.mk (blk_below (g := gb236) (o := .cells #[.int .i64 x237000_3, .int .i64 x237001_3] 23 (0, 0)) (by (with_reducible repeat (first | refine blk_drewN ?_ _ | refine blk_drew ?_ | refine blk_alloc ?_ _)); exact BK236.out) hb); have n1_ := Aside0.mk (blk_below (g := gb237) (o := .cells #[.int .i64 x238000_13, .int .i64 x238001_13] 23 (0, 0)) (by (with_reducible repeat (first | refine blk_drewN ?_ _ | refine blk_drew ?_ | refine blk_alloc ?_ _)); exact BK237.out) hb); have n2_ := Aside0.mk (below_step (by repeat (first | (with_reducible first | exact HB.out | apply below_alloc | apply pw_below_drewN | apply below_drew1 | refine below_set ?_ GE236.out | refine below_set ?_ GE237.out) | exact HB.out)) hb); clear BK236; clear BK237; clear HB; have BK236 := n0_; have BK237 := n1_; have HB := n2_; clear n0_ n1_ n2_; (try clear hb); (try clear hb2); (try clear hk); (try clear hi)))
                    go_ret
                    exact ⟨by first | rfl | (simp [errW_none, errW_some] <;> rfl) | (simp [*, errW_none, errW_some] <;> rfl) | (simp [errW_none, errW_some, bne_nil_, beq_nil_]; done) | (simp [*, errW_none, errW_some, bne_nil_, beq_nil_]; done), by repeat (first | (with_reducible first | exact HB.out | apply below_alloc | apply pw_below_drewN | apply below_drew1 | refine below_set ?_ GE236.out | refine below_set ?_ GE237.out) | exact HB.out)⟩
                · replace c35 := Bool.eq_false_iff.mpr c35
                  subst c35
                  rw [if_neg (show ¬ (false = true) by decide)] at H
                  have HC46 := Aside0.mk H
                  clear H
                  go_upto_region 11 with (fail)
                  go_cut [32] (fun v32 wc => ∃ (kq : Nat) (x32_45 : Bool), v32 = .bool x32_45 ∧ Aside0 (deckleref06_Compare.j3 kq x32_45 x237000_3 x237001_3 x238000_13 x238001_13 = some r) ∧ Aside0 (kq ≤ kj24) ∧ Aside0 (wc.heap[gb236]? = some (.cells #[.int .i64 x237000_3, .int .i64 x237001_3] 23 (0, 0))) ∧ Aside0 (wc.heap[gb237]? = some (.cells #[.int .i64 x238000_13, .int .i64 x238001_13] 23 (0, 0))) ∧ Aside0 (Below w.heap.size w wc))
                  case first =>
                    have H := HC46.out
                    clear HC46
                    by_cases c47 : x237000_3 < 0
                    · rw [if_pos c47] at H
                      have c47b0 : decide (x237000_3 < 0) = true := decide_eq_true c47
                      clear c47
                      (first | rw [c47b0] | (simp only [i64_w, i32_w]; rw [c47b0]) | skip)
                      have H' := Aside0.mk H
                      clear H
                      have hnb48 := NB236_237.out
                      have hnc48 := NB237_236.out
                      have hcz49_0 : wc.cell? ⟨gb236, 0, none⟩ = some (.int .i64 x237000_3) := (blk_cell BK236.out 0).trans rfl
                      have hcz49_1 : wc.cell? ⟨gb236, 1, none⟩ = some (.int .i64 x237001_3) := (blk_cell BK236.out 1).trans rfl
                      have hfz49_0 := blk_frozen BK236.out 0
                      have hfz49_1 := blk_frozen BK236.out 1
                      go_wp2
                      go_meet
                      case rel => exact ⟨_, (true), (by first | rfl | (simp; done) | (simp [*]; done)), H', ⟨by have := HJ3.out; have := HJ13.out; have := HJ24.out; first | omega | exact Nat.le_refl _⟩, ⟨by (with_reducible repeat (first | refine blk_drewN ?_ _ | refine blk_drew ?_ | refine blk_alloc ?_ _)); exact BK236.out⟩, ⟨by (with_reducible repeat (first | refine blk_drewN ?_ _ | refine blk_drew ?_ | refine blk_alloc ?_ _)); exact BK237.out⟩, ⟨by repeat (first | (with_reducible first | exact HB.out | apply below_alloc | apply pw_below_drewN | apply below_drew1 | refine below_set ?_ GE236.out | refine below_set ?_ GE237.out) | exact HB.out)⟩⟩
                    · rw [if_neg c47] at H
                      have c47b0 : decide (x237000_3 < 0) = false := decide_eq_false c47
                      clear c47
                      (first | rw [c47b0] | (simp only [i64_w, i32_w]; rw [c47b0]) | skip)
                      have H' := Aside0.mk H
                      clear H
                      have hnb50 := NB236_237.out
                      have hnc50 := NB237_236.out
                      have hcz51_0 : wc.cell? ⟨gb236, 0, none⟩ = some (.int .i64 x237000_3) := (blk_cell BK236.out 0).trans rfl
                      have hcz51_1 : wc.cell? ⟨gb236, 1, none⟩ = some (.int .i64 x237001_3) := (blk_cell BK236.out 1).trans rfl
                      have hfz51_0 := blk_frozen BK236.out 0
                      have hfz51_1 := blk_frozen BK236.out 1
                      have hcz52_0 : wc.cell? ⟨gb237, 0, none⟩ = some (.int .i64 x238000_13) := (blk_cell BK237.out 0).trans rfl
                      have hcz52_1 : wc.cell? ⟨gb237, 1, none⟩ = some (.int .i64 x238001_13) := (blk_cell BK237.out 1).trans rfl
                      have hfz52_0 := blk_frozen BK237.out 0
                      have hfz52_1 := blk_frozen BK237.out 1
                      go_wp2
                      go_meet
                      case rel => exact ⟨_, (decide (x238000_13 < 0)), (by first | rfl | (simp; done) | (simp [*]; done)), H', ⟨by have := HJ3.out; have := HJ13.out; have := HJ24.out; first | omega | exact Nat.le_refl _⟩, ⟨by (with_reducible repeat (first | refine blk_drewN ?_ _ | refine blk_drew ?_ | refine blk_alloc ?_ _)); exact BK236.out⟩, ⟨by (with_reducible repeat (first | refine blk_drewN ?_ _ | refine blk_drew ?_ | refine blk_alloc ?_ _)); exact BK237.out⟩, ⟨by repeat (first | (with_reducible first | exact HB.out | apply below_alloc | apply pw_below_drewN | apply below_drew1 | refine below_set ?_ GE236.out | refine below_set ?_ GE237.out) | exact HB.out)⟩⟩
                  case rest =>
                    clear HC46
                    try clear c1
                    try clear c2
                    try clear p2
                    try clear c3
                    try clear c4
                    try clear c5
                    try clear c7
                    try clear c10
                    try clear c11
                    try clear c15
                    try clear c17
                    try clear c18
                    try clear c19
                    try clear c21
                    try clear c21b0
                    try clear c21b1
                    try clear c21b2
                    try clear c22
                    try clear c23
                    try clear c26
                    try clear c29
                    try clear c29b0
                    try clear c30
                    try clear c31
                    try clear c33
                    try clear c35
                    try clear c37
                    try clear c38
                    try clear c42
                    try clear c47
                    try clear c47b0
                    try clear c48
                    try clear c50
                    try clear hcz12_0
                    try clear hcz12_1
                    try clear hcz16_0
                    try clear hcz16_1
                    try clear hcz20_0
                    try clear hcz20_1
                    try clear hcz23_0
                    try clear hcz23_1
                    try clear hcz24_0
                    try clear hcz24_1
                    try clear hcz27_0
                    try clear hcz27_1
                    try clear hcz28_0
                    try clear hcz28_1
                    try clear hcz31_0
                    try clear hcz31_1
                    try clear hcz32_0
                    try clear hcz32_1
                    try clear hcz34_0
                    try clear hcz34_1
                    try clear hcz39_0
                    try clear hcz39_1
                    try clear hcz40_0
                    try clear hcz40_1
                    try clear hcz43_0
                    try clear hcz43_1
                    try clear hcz44_0
                    try clear hcz44_1
                    try clear hcz49_0
                    try clear hcz49_1
                    try clear hcz51_0
                    try clear hcz51_1
                    try clear hcz52_0
                    try clear hcz52_1
                    try clear hcz8_0
                    try clear hcz8_1
                    try clear hfz12_0
                    try clear hfz12_1
                    try clear hfz16_0
                    try clear hfz16_1
                    try clear hfz20_0
                    try clear hfz20_1
                    try clear hfz23_0
                    try clear hfz23_1
                    try clear hfz24_0
                    try clear hfz24_1
                    try clear hfz27_0
                    try clear hfz27_1
                    try clear hfz28_0
                    try clear hfz28_1
                    try clear hfz31_0
                    try clear hfz31_1
                    try clear hfz32_0
                    try clear hfz32_1
                    try clear hfz34_0
                    try clear hfz34_1
                    try clear hfz39_0
                    try clear hfz39_1
                    try clear hfz40_0
                    try clear hfz40_1
                    try clear hfz43_0
                    try clear hfz43_1
                    try clear hfz44_0
                    try clear hfz44_1
                    try clear hfz49_0
                    try clear hfz49_1
                    try clear hfz51_0
                    try clear hfz51_1
                    try clear hfz52_0
                    try clear hfz52_1
                    try clear hfz8_0
                    try clear hfz8_1
                    try clear p2
                    obtain ⟨kq, x32_45, rfl, HA, HJ45, BK236, BK237, HB⟩ := hcut
                    cases kq with
                    | zero => exact absurd HA.out (by simp [deckleref06_Compare.j3])
                    | succ kj45 =>
                      have H := HA.out
                      clear HA
                      simp only [deckleref06_Compare.j3] at H
                      by_cases c53 : x32_45 = true
                      · subst c53
                        rw [if_pos rfl] at H
                        by_cases c54 : x238000_13 < 0
                        · rw [if_pos c54] at H
                          have c54b0 : decide (x238000_13 < 0) = true := decide_eq_true c54
                          clear c54
                          obtain rfl := Option.some.inj H
                          have hnb55 := NB237_236.out
                          have hnc55 := NB236_237.out
                          have hcz56_0 : wc.cell? ⟨gb237, 0, none⟩ = some (.int .i64 x238000_13) := (blk_cell BK237.out 0).trans rfl
                          have hcz56_1 : wc.cell? ⟨gb237, 1, none⟩ = some (.int .i64 x238001_13) := (blk_cell BK237.out 1).trans rfl
                          have hfz56_0 := blk_frozen BK237.out 0
                          have hfz56_1 := blk_frozen BK237.out 1
                          go_wp2
                          go_ret
                          exact ⟨by first | rfl | (simp [errW_none, errW_some] <;> rfl) | (simp [*, errW_none, errW_some] <;> rfl) | (simp [errW_none, errW_some, bne_nil_, beq_nil_]; done) | (simp [*, errW_none, errW_some, bne_nil_, beq_nil_]; done), by repeat (first | (with_reducible first | exact HB.out | apply below_alloc | apply pw_below_drewN | apply below_drew1 | refine below_set ?_ GE236.out | refine below_set ?_ GE237.out) | exact HB.out)⟩
                        · rw [if_neg c54] at H
                          have c54b0 : decide (x238000_13 < 0) = false := decide_eq_false c54
                          clear c54
                          obtain rfl := Option.some.inj H
                          have hnb57 := NB237_236.out
                          have hnc57 := NB236_237.out
                          have hcz58_0 : wc.cell? ⟨gb237, 0, none⟩ = some (.int .i64 x238000_13) := (blk_cell BK237.out 0).trans rfl
                          have hcz58_1 : wc.cell? ⟨gb237, 1, none⟩ = some (.int .i64 x238001_13) := (blk_cell BK237.out 1).trans rfl
                          have hfz58_0 := blk_frozen BK237.out 0
                          have hfz58_1 := blk_frozen BK237.out 1
                          go_wp2
                          go_ret
                          exact ⟨by first | rfl | (simp [errW_none, errW_some] <;> rfl) | (simp [*, errW_none, errW_some] <;> rfl) | (simp [errW_none, errW_some, bne_nil_, beq_nil_]; done) | (simp [*, errW_none, errW_some, bne_nil_, beq_nil_]; done), by repeat (first | (with_reducible first | exact HB.out | apply below_alloc | apply pw_below_drewN | apply below_drew1 | refine below_set ?_ GE236.out | refine below_set ?_ GE237.out) | exact HB.out)⟩
                      · replace c53 := Bool.eq_false_iff.mpr c53
                        subst c53
                        rw [if_neg (show ¬ (false = true) by decide)] at H
                        have HC59 := Aside0.mk H
                        clear H
                        go_upto_region 13 with (fail)
                        go_cut [44] (fun v44 wc => ∃ (kq : Nat) (x44_58 : Bool), v44 = .bool x44_58 ∧ Aside0 (deckleref06_Compare.j4 kq x44_58 x237000_3 x237001_3 x238000_13 x238001_13 = some r) ∧ Aside0 (kq ≤ kj45) ∧ Aside0 (wc.heap[gb236]? = some (.cells #[.int .i64 x237000_3, .int .i64 x237001_3] 23 (0, 0))) ∧ Aside0 (wc.heap[gb237]? = some (.cells #[.int .i64 x238000_13, .int .i64 x238001_13] 23 (0, 0))) ∧ Aside0 (Below w.heap.size w wc))
                        case first =>
                          have H := HC59.out
                          clear HC59
                          by_cases c60 : x237000_3 = 0
                          · rw [if_pos c60] at H
                            have c60b0 : (x237000_3 == 0) = true := beq_iff_eq.mpr c60
                            have c60b1 : (x237000_3 != 0) = false := bne_eq_false_iff_eq.mpr c60
                            clear c60
                            (first | rw [c60b0] | (simp only [i64_w, i32_w]; rw [c60b0]) | skip)
                            have H' := Aside0.mk H
                            clear H
                            have hnb61 := NB236_237.out
                            have hnc61 := NB237_236.out
                            have hcz62_0 : wc.cell? ⟨gb236, 0, none⟩ = some (.int .i64 x237000_3) := (blk_cell BK236.out 0).trans rfl
                            have hcz62_1 : wc.cell? ⟨gb236, 1, none⟩ = some (.int .i64 x237001_3) := (blk_cell BK236.out 1).trans rfl
                            have hfz62_0 := blk_frozen BK236.out 0
                            have hfz62_1 := blk_frozen BK236.out 1
                            go_wp2
                            go_meet
                            case rel => exact ⟨_, (true), (by first | rfl | (simp; done) | (simp [*]; done)), H', ⟨by have := HJ3.out; have := HJ13.out; have := HJ24.out; have := HJ45.out; first | omega | exact Nat.le_refl _⟩, ⟨by (with_reducible repeat (first | refine blk_drewN ?_ _ | refine blk_drew ?_ | refine blk_alloc ?_ _)); exact BK236.out⟩, ⟨by (with_reducible repeat (first | refine blk_drewN ?_ _ | refine blk_drew ?_ | refine blk_alloc ?_ _)); exact BK237.out⟩, ⟨by repeat (first | (with_reducible first | exact HB.out | apply below_alloc | apply pw_below_drewN | apply below_drew1 | refine below_set ?_ GE236.out | refine below_set ?_ GE237.out) | exact HB.out)⟩⟩
                          · rw [if_neg c60] at H
                            have c60b0 : (x237000_3 == 0) = false := beq_eq_false_iff_ne.mpr c60
                            have c60b1 : (x237000_3 != 0) = true := bne_iff_ne.mpr c60
                            (first | rw [c60b0] | (simp only [i64_w, i32_w]; rw [c60b0]) | skip)
                            have H' := Aside0.mk H
                            clear H
                            have hnb63 := NB236_237.out
                            have hnc63 := NB237_236.out
                            have hcz64_0 : wc.cell? ⟨gb236, 0, none⟩ = some (.int .i64 x237000_3) := (blk_cell BK236.out 0).trans rfl
                            have hcz64_1 : wc.cell? ⟨gb236, 1, none⟩ = some (.int .i64 x237001_3) := (blk_cell BK236.out 1).trans rfl
                            have hfz64_0 := blk_frozen BK236.out 0
                            have hfz64_1 := blk_frozen BK236.out 1
                            have hcz65_0 : wc.cell? ⟨gb237, 0, none⟩ = some (.int .i64 x238000_13) := (blk_cell BK237.out 0).trans rfl
                            have hcz65_1 : wc.cell? ⟨gb237, 1, none⟩ = some (.int .i64 x238001_13) := (blk_cell BK237.out 1).trans rfl
                            have hfz65_0 := blk_frozen BK237.out 0
                            have hfz65_1 := blk_frozen BK237.out 1
                            go_wp2
                            go_meet
                            case rel => exact ⟨_, ((x238000_13 == 0)), (by first | rfl | (simp; done) | (simp [*]; done)), H', ⟨by have := HJ3.out; have := HJ13.out; have := HJ24.out; have := HJ45.out; first | omega | exact Nat.le_refl _⟩, ⟨by (with_reducible repeat (first | refine blk_drewN ?_ _ | refine blk_drew ?_ | refine blk_alloc ?_ _)); exact BK236.out⟩, ⟨by (with_reducible repeat (first | refine blk_drewN ?_ _ | refine blk_drew ?_ | refine blk_alloc ?_ _)); exact BK237.out⟩, ⟨by repeat (first | (with_reducible first | exact HB.out | apply below_alloc | apply pw_below_drewN | apply below_drew1 | refine below_set ?_ GE236.out | refine below_set ?_ GE237.out) | exact HB.out)⟩⟩
                        case rest =>
                          clear HC59
                          try clear c1
                          try clear c2
                          try clear p2
                          try clear c3
                          try clear c4
                          try clear c5
                          try clear c6
                          try clear c7
                          try clear c10
                          try clear c11
                          try clear c15
                          try clear c17
                          try clear c18
                          try clear c19
                          try clear c21
                          try clear c21b0
                          try clear c21b1
                          try clear c21b2
                          try clear c22
                          try clear c23
                          try clear c26
                          try clear c29
                          try clear c29b0
                          try clear c30
                          try clear c31
                          try clear c33
                          try clear c35
                          try clear c37
                          try clear c38
                          try clear c42
                          try clear c47
                          try clear c47b0
                          try clear c48
                          try clear c50
                          try clear c53
                          try clear c54
                          try clear c54b0
                          try clear c55
                          try clear c57
                          try clear c60
                          try clear c60b0
                          try clear c60b1
                          try clear c61
                          try clear c63
                          try clear hcz12_0
                          try clear hcz12_1
                          try clear hcz16_0
                          try clear hcz16_1
                          try clear hcz20_0
                          try clear hcz20_1
                          try clear hcz23_0
                          try clear hcz23_1
                          try clear hcz24_0
                          try clear hcz24_1
                          try clear hcz27_0
                          try clear hcz27_1
                          try clear hcz28_0
                          try clear hcz28_1
                          try clear hcz31_0
                          try clear hcz31_1
                          try clear hcz32_0
                          try clear hcz32_1
                          try clear hcz34_0
                          try clear hcz34_1
                          try clear hcz39_0
                          try clear hcz39_1
                          try clear hcz40_0
                          try clear hcz40_1
                          try clear hcz43_0
                          try clear hcz43_1
                          try clear hcz44_0
                          try clear hcz44_1
                          try clear hcz49_0
                          try clear hcz49_1
                          try clear hcz51_0
                          try clear hcz51_1
                          try clear hcz52_0
                          try clear hcz52_1
                          try clear hcz56_0
                          try clear hcz56_1
                          try clear hcz58_0
                          try clear hcz58_1
                          try clear hcz62_0
                          try clear hcz62_1
                          try clear hcz64_0
                          try clear hcz64_1
                          try clear hcz65_0
                          try clear hcz65_1
                          try clear hcz8_0
                          try clear hcz8_1
                          try clear hfz12_0
                          try clear hfz12_1
                          try clear hfz16_0
                          try clear hfz16_1
                          try clear hfz20_0
                          try clear hfz20_1
                          try clear hfz23_0
                          try clear hfz23_1
                          try clear hfz24_0
                          try clear hfz24_1
                          try clear hfz27_0
                          try clear hfz27_1
                          try clear hfz28_0
                          try clear hfz28_1
                          try clear hfz31_0
                          try clear hfz31_1
                          try clear hfz32_0
                          try clear hfz32_1
                          try clear hfz34_0
                          try clear hfz34_1
                          try clear hfz39_0
                          try clear hfz39_1
                          try clear hfz40_0
                          try clear hfz40_1
                          try clear hfz43_0
                          try clear hfz43_1
                          try clear hfz44_0
                          try clear hfz44_1
                          try clear hfz49_0
                          try clear hfz49_1
                          try clear hfz51_0
                          try clear hfz51_1
                          try clear hfz52_0
                          try clear hfz52_1
                          try clear hfz56_0
                          try clear hfz56_1
                          try clear hfz58_0
                          try clear hfz58_1
                          try clear hfz62_0
                          try clear hfz62_1
                          try clear hfz64_0
                          try clear hfz64_1
                          try clear hfz65_0
                          try clear hfz65_1
                          try clear hfz8_0
                          try clear hfz8_1
                          try clear p2
                          obtain ⟨kq, x44_58, rfl, HA, HJ58, BK236, BK237, HB⟩ := hcut
                          cases kq with
                          | zero => exact absurd HA.out (by simp [deckleref06_Compare.j4])
                          | succ kj58 =>
                            have H := HA.out
                            clear HA
                            simp only [deckleref06_Compare.j4] at H
                            by_cases c66 : x44_58 = true
                            · subst c66
                              rw [if_pos rfl] at H
                              by_cases c67 : x238000_13 = 0
                              · rw [if_pos c67] at H
                                have c67b0 : (x238000_13 == 0) = true := beq_iff_eq.mpr c67
                                have c67b1 : (x238000_13 != 0) = false := bne_eq_false_iff_eq.mpr c67
                                clear c67
                                obtain rfl := Option.some.inj H
                                have hnb68 := NB237_236.out
                                have hnc68 := NB236_237.out
                                have hcz69_0 : wc.cell? ⟨gb237, 0, none⟩ = some (.int .i64 x238000_13) := (blk_cell BK237.out 0).trans rfl
                                have hcz69_1 : wc.cell? ⟨gb237, 1, none⟩ = some (.int .i64 x238001_13) := (blk_cell BK237.out 1).trans rfl
                                have hfz69_0 := blk_frozen BK237.out 0
                                have hfz69_1 := blk_frozen BK237.out 1
                                go_wp2
                                go_ret
                                exact ⟨by first | rfl | (simp [errW_none, errW_some] <;> rfl) | (simp [*, errW_none, errW_some] <;> rfl) | (simp [errW_none, errW_some, bne_nil_, beq_nil_]; done) | (simp [*, errW_none, errW_some, bne_nil_, beq_nil_]; done), by repeat (first | (with_reducible first | exact HB.out | apply below_alloc | apply pw_below_drewN | apply below_drew1 | refine below_set ?_ GE236.out | refine below_set ?_ GE237.out) | exact HB.out)⟩
                              · rw [if_neg c67] at H
                                have c67b0 : (x238000_13 == 0) = false := beq_eq_false_iff_ne.mpr c67
                                have c67b1 : (x238000_13 != 0) = true := bne_iff_ne.mpr c67
                                obtain rfl := Option.some.inj H
                                have hnb70 := NB237_236.out
                                have hnc70 := NB236_237.out
                                have hcz71_0 : wc.cell? ⟨gb237, 0, none⟩ = some (.int .i64 x238000_13) := (blk_cell BK237.out 0).trans rfl
                                have hcz71_1 : wc.cell? ⟨gb237, 1, none⟩ = some (.int .i64 x238001_13) := (blk_cell BK237.out 1).trans rfl
                                have hfz71_0 := blk_frozen BK237.out 0
                                have hfz71_1 := blk_frozen BK237.out 1
                                go_wp2
                                go_ret
                                exact ⟨by first | rfl | (simp [errW_none, errW_some] <;> rfl) | (simp [*, errW_none, errW_some] <;> rfl) | (simp [errW_none, errW_some, bne_nil_, beq_nil_]; done) | (simp [*, errW_none, errW_some, bne_nil_, beq_nil_]; done), by repeat (first | (with_reducible first | exact HB.out | apply below_alloc | apply pw_below_drewN | apply below_drew1 | refine below_set ?_ GE236.out | refine below_set ?_ GE237.out) | exact HB.out)⟩
                            · replace c66 := Bool.eq_false_iff.mpr c66
                              subst c66
                              rw [if_neg (show ¬ (false = true) by decide)] at H
                              replace H := Option.bind_eq_some_iff.mp H
                              obtain ⟨t241, A720, H⟩ := H
                              have A72 := Aside0.mk A720; clear A720
                              by_cases c73 : t241 = true
                              · subst c73
                                rw [if_pos rfl] at H
                                obtain rfl := Option.some.inj H
                                have hnb74 := NB236_237.out
                                have hnc74 := NB237_236.out
                                have hcz75_0 : wc.cell? ⟨gb236, 0, none⟩ = some (.int .i64 x237000_3) := (blk_cell BK236.out 0).trans rfl
                                have hcz75_1 : wc.cell? ⟨gb236, 1, none⟩ = some (.int .i64 x237001_3) := (blk_cell BK236.out 1).trans rfl
                                have hfz75_0 := blk_frozen BK236.out 0
                                have hfz75_1 := blk_frozen BK236.out 1
                                have hcz76_0 : wc.cell? ⟨gb237, 0, none⟩ = some (.int .i64 x238000_13) := (blk_cell BK237.out 0).trans rfl
                                have hcz76_1 : wc.cell? ⟨gb237, 1, none⟩ = some (.int .i64 x238001_13) := (blk_cell BK237.out 1).trans rfl
                                have hfz76_0 := blk_frozen BK237.out 0
                                have hfz76_1 := blk_frozen BK237.out 1
                                go_wp2_with (first | ((with_reducible refine gate_callee (f := 31) rfl ?_); refine goesL_ (some 19) rfl rfl Tryd.func31 (by kernel_rfl) rfl #[.agg #[.int .i64 x237000_3, .int .i64 x237001_3], .agg #[.int .i64 x238000_13, .int .i64 x238001_13]] rfl (by (try simp only [List.map_toArray, List.map_cons, List.map_nil]); first | done | rfl | (simp only [List.length_drop, List.length_take]; rfl)) ?_; (with_reducible refine (deckleref06_more.calls kj58 x237000_3 x237001_3 x238000_13 x238001_13 true _ ?side1 A72.out).mono ?_); (case side1 => first | exact hT | exact Tabs.below hT (by repeat (first | (with_reducible first | exact HB.out | apply below_alloc | apply pw_below_drewN | apply below_drew1 | refine below_set ?_ GE236.out | refine below_set ?_ GE237.out) | exact HB.out)) | ((repeat (first | exact hT | apply Tabs.drewN | apply Tabs.drew)); done)); rintro e w77 ⟨rfl, hb⟩; refine ⟨_, rfl, ?_⟩; have n0_ := Aside0.mk (blk_below (g := gb236) (o := .cells #[.int .i64 x237000_3, .int .i64 x237001_3] 23 (0, 0)) (by (with_reducible repeat (first | refine blk_drewN ?_ _ | refine blk_drew ?_ | refine blk_alloc ?_ _)); exact BK236.out) hb); have n1_ := Aside0.mk (blk_below (g := gb237) (o := .cells #[.int .i64 x238000_13, .int .i64 x238001_13] 23 (0, 0)) (by (with_reducible repeat (first | refine blk_drewN ?_ _ | refine blk_drew ?_ | refine blk_alloc ?_ _)); exact BK237.out) hb); have n2_ := Aside0.mk (below_step (by repeat (first | (with_reducible first | exact HB.out | apply below_alloc | apply pw_below_drewN | apply below_drew1 | refine below_set ?_ GE236.out | refine below_set ?_ GE237.out) | exact HB.out)) hb); clear BK236; clear BK237; clear HB; have BK236 := n0_; have BK237 := n1_; have HB := n2_; clear n0_ n1_ n2_; (try clear hb); (try clear hb2); (try clear hk); (try clear hi)))
                                go_ret
                                exact ⟨by first | rfl | (simp [errW_none, errW_some] <;> rfl) | (simp [*, errW_none, errW_some] <;> rfl) | (simp [errW_none, errW_some, bne_nil_, beq_nil_]; done) | (simp [*, errW_none, errW_some, bne_nil_, beq_nil_]; done), by repeat (first | (with_reducible first | exact HB.out | apply below_alloc | apply pw_below_drewN | apply below_drew1 | refine below_set ?_ GE236.out | refine below_set ?_ GE237.out) | exact HB.out)⟩
                              · replace c73 := Bool.eq_false_iff.mpr c73
                                subst c73
                                rw [if_neg (show ¬ (false = true) by decide)] at H
                                obtain rfl := Option.some.inj H
                                have hnb78 := NB236_237.out
                                have hnc78 := NB237_236.out
                                have hcz79_0 : wc.cell? ⟨gb236, 0, none⟩ = some (.int .i64 x237000_3) := (blk_cell BK236.out 0).trans rfl
                                have hcz79_1 : wc.cell? ⟨gb236, 1, none⟩ = some (.int .i64 x237001_3) := (blk_cell BK236.out 1).trans rfl
                                have hfz79_0 := blk_frozen BK236.out 0
                                have hfz79_1 := blk_frozen BK236.out 1
                                have hcz80_0 : wc.cell? ⟨gb237, 0, none⟩ = some (.int .i64 x238000_13) := (blk_cell BK237.out 0).trans rfl
                                have hcz80_1 : wc.cell? ⟨gb237, 1, none⟩ = some (.int .i64 x238001_13) := (blk_cell BK237.out 1).trans rfl
                                have hfz80_0 := blk_frozen BK237.out 0
                                have hfz80_1 := blk_frozen BK237.out 1
                                go_wp2_with (first | ((with_reducible refine gate_callee (f := 31) rfl ?_); refine goesL_ (some 19) rfl rfl Tryd.func31 (by kernel_rfl) rfl #[.agg #[.int .i64 x237000_3, .int .i64 x237001_3], .agg #[.int .i64 x238000_13, .int .i64 x238001_13]] rfl (by (try simp only [List.map_toArray, List.map_cons, List.map_nil]); first | done | rfl | (simp only [List.length_drop, List.length_take]; rfl)) ?_; (with_reducible refine (deckleref06_more.calls kj58 x237000_3 x237001_3 x238000_13 x238001_13 false _ ?side1 A72.out).mono ?_); (case side1 => first | exact hT | exact Tabs.below hT (by repeat (first | (with_reducible first | exact HB.out | apply below_alloc | apply pw_below_drewN | apply below_drew1 | refine below_set ?_ GE236.out | refine below_set ?_ GE237.out) | exact HB.out)) | ((repeat (first | exact hT | apply Tabs.drewN | apply Tabs.drew)); done)); rintro e w81 ⟨rfl, hb⟩; refine ⟨_, rfl, ?_⟩; have n0_ := Aside0.mk (blk_below (g := gb236) (o := .cells #[.int .i64 x237000_3, .int .i64 x237001_3] 23 (0, 0)) (by (with_reducible repeat (first | refine blk_drewN ?_ _ | refine blk_drew ?_ | refine blk_alloc ?_ _)); exact BK236.out) hb); have n1_ := Aside0.mk (blk_below (g := gb237) (o := .cells #[.int .i64 x238000_13, .int .i64 x238001_13] 23 (0, 0)) (by (with_reducible repeat (first | refine blk_drewN ?_ _ | refine blk_drew ?_ | refine blk_alloc ?_ _)); exact BK237.out) hb); have n2_ := Aside0.mk (below_step (by repeat (first | (with_reducible first | exact HB.out | apply below_alloc | apply pw_below_drewN | apply below_drew1 | refine below_set ?_ GE236.out | refine below_set ?_ GE237.out) | exact HB.out)) hb); clear BK236; clear BK237; clear HB; have BK236 := n0_; have BK237 := n1_; have HB := n2_; clear n0_ n1_ n2_; (try clear hb); (try clear hb2); (try clear hk); (try clear hi)))
                                go_ret
                                exact ⟨by first | rfl | (simp [errW_none, errW_some] <;> rfl) | (simp [*, errW_none, errW_some] <;> rfl) | (simp [errW_none, errW_some, bne_nil_, beq_nil_]; done) | (simp [*, errW_none, errW_some, bne_nil_, beq_nil_]; done), by repeat (first | (with_reducible first | exact HB.out | apply below_alloc | apply pw_below_drewN | apply below_drew1 | refine below_set ?_ GE236.out | refine below_set ?_ GE237.out) | exact HB.out)⟩

end Go.Proofs.YtnpkjakkjfjikaaDoor.All
