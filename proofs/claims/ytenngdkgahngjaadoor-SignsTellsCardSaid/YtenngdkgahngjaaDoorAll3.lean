-- Written for this claim by wip/tools/gprint.py out of the translation (it drives the kit's print). Lean checks it.
import Derived.Test.YtenngdkgahngjaaDoorAll0
import Derived.Test.YtenngdkgahngjaaDoorAll2
namespace Go.Proofs.YtenngdkgahngjaaDoor.All
open Go.RowKit Go.Proofs.YtenngdkgahngjaaDoorW.PrintWords Go.Proofs.YtenngdkgahngjaaDoorW.PrintLast Go.Proofs.YtenngdkgahngjaaDoorW.PrintMore Go.Proofs.YtenngdkgahngjaaDoor.G
attribute [local go_sem] max2_int min2_int max_two min_two max_three min_three max_four min_four str_leq str_gtr str_geq   -- for this text's walks alone
set_option linter.unusedVariables false
set_option linter.unusedSimpArgs false

/-! ### deckleref07_Signs: function 18 -/
def deckleref07_Signs.l0 : Nat → ByteArray → List Int → Option (List Int × Bool)
  | 0, _, _ => none
  | k + 1, x0, x4 => if x0.toList = ([] : List UInt8) then (some (x4, true)) else ((deckleref07_next.f k x0).bind fun bt123 => (if bt123.2 = 0 then (some (([] : List Int), false)) else (if x4.length < 17592186044416 then (if 0 ≤ bt123.2 then (if bt123.2 ≤ (x0.size : Int) then (deckleref07_Signs.l0 k (x0.extract (bt123.2 : Int).toNat x0.size) (x4 ++ [bt123.1])) else (none)) else (none)) else (none))))
def deckleref07_Signs.f (k : Nat) (a0 : ByteArray) : Option (List Int × Bool) := deckleref07_Signs.l0 k a0 ([] : List Int)
theorem deckleref07_Signs.mono_l : ∀ k, (∀ y0 y1, LeO (deckleref07_Signs.l0 k y0 y1) (deckleref07_Signs.l0 (k + 1) y0 y1))
  | 0 => fun _ _ r h => by simp [deckleref07_Signs.l0] at h
  | k + 1 => by
    have ih0 := deckleref07_Signs.mono_l k
    · intro y0 y1
      unfold deckleref07_Signs.l0
      repeat' first
      | (with_reducible exact ih0 _ _)
      | (with_reducible exact deckleref07_next.mono _ _)
      | (with_reducible exact LeO.refl _)
      | (with_reducible exact LeO.none _)
      | (with_reducible refine LeO.ite ?_ ?_)
      | (with_reducible refine LeO.bind ?_ (fun _ => ?_))
      | exact ih0 _ _
      | exact deckleref07_next.mono _ _
      | exact LeO.none _
      | refine LeO.ite ?_ ?_
      | refine LeO.bind ?_ (fun _ => ?_)
theorem deckleref07_Signs.mono : ∀ a0 k, LeO (deckleref07_Signs.f k a0) (deckleref07_Signs.f (k + 1) a0) := by
  intro a0 k
  have ih0 := deckleref07_Signs.mono_l k
  unfold deckleref07_Signs.f
  repeat' first
      | (with_reducible exact ih0 _ _)
      | (with_reducible exact deckleref07_next.mono _ _)
      | (with_reducible exact LeO.refl _)
      | (with_reducible exact LeO.none _)
      | (with_reducible refine LeO.ite ?_ ?_)
      | (with_reducible refine LeO.bind ?_ (fun _ => ?_))
      | exact ih0 _ _
      | exact deckleref07_next.mono _ _
      | exact LeO.none _
      | refine LeO.ite ?_ ?_
      | refine LeO.bind ?_ (fun _ => ?_)
set_option maxHeartbeats 8000000 in
set_option maxRecDepth 100000 in
theorem deckleref07_Signs.calls (k : Nat) (a0 : ByteArray) (r1 : List Int) (r2 : Bool) (w : World) (hT : Tabs w) (h : deckleref07_Signs.f k a0 = some (r1, r2)) :
    Calls Tryd.prog 18 #[.string a0] w fun e w' => ∃ v0_ : Value, e = .returned (.tuple #[v0_, .bool r2]) ∧ Kd.R (Kd.int .i64) 3 w' w.heap.size (fun _ => True) v0_ r1 ∧ Below w.heap.size w w' := by
  have HB := Aside0.mk (Below.refl w.heap.size w)
  have H : (deckleref07_Signs.l0 k a0 ([] : List Int)) = some (r1, r2) := h
  clear h
  have H' := Aside0.mk H
  clear H
  go_enter Tryd.func18, Tryd.ntmps18
  go_wp2
  go_loopg [0, 4] k (fun kq v0 v4 w' => ∃ (x0_1 : ByteArray) (x4_1 : List Int), v0 = .string x0_1 ∧ Aside0 (deckleref07_Signs.l0 kq x0_1 x4_1 = some (r1, r2)) ∧ Aside0 (kq ≤ k) ∧ Aside0 (Kd.R (Kd.int .i64) 3 w' w.heap.size (fun _ => True) v4 x4_1) ∧ Aside0 (Below w.heap.size w w'))
  case atStart => exact ⟨(a0), (([] : List Int)), (by first | rfl | (simp; done) | (simp [*]; done)), H', ⟨Nat.le_refl _⟩, ⟨by first | exact Kd.R_nil _ _ _ _ _ | exact Kd.N_nil _ _ _ _ _ | exact Kd.V_nil _ _ _ _ _ | exact Kd.Q_nil _ _ _ _ _ | exact Kd.S_nil _ _ _ _ _⟩, ⟨by repeat (first | (with_reducible first | exact HB.out | apply below_alloc | apply pw_below_drewN | apply below_drew1) | exact HB.out)⟩⟩
  case round =>
    clear H'
    try clear c1
    obtain ⟨x0_1, x4_1, rfl, HA, HK1, HO_4, HB⟩ := hrel
    cases gk with
    | zero => exact absurd HA.out (by simp [deckleref07_Signs.l0])
    | succ k1 =>
      have H := HA.out
      clear HA
      simp only [deckleref07_Signs.l0] at H
      by_cases c2 : x0_1.toList = ([] : List UInt8)
      · rw [if_pos c2] at H
        have c2b0 : (x0_1.toList == ([] : List UInt8)) = true := beq_iff_eq.mpr c2
        have c2b1 : (x0_1.toList != ([] : List UInt8)) = false := bne_eq_false_iff_eq.mpr c2
        clear c2
        simp only [Option.some.injEq, Prod.mk.injEq] at H
        obtain ⟨rfl, rfl⟩ := H
        go_wp2
        go_ret2
        exact ⟨_, by first | rfl | (simp [errW_none, errW_some] <;> rfl) | (simp [*, errW_none, errW_some] <;> rfl) | (simp [errW_none, errW_some, bne_nil_, beq_nil_]; done) | (simp [*, errW_none, errW_some, bne_nil_, beq_nil_]; done), by (with_reducible repeat (first | apply Kd.R_alloc | apply Kd.R_drewN | apply Kd.R_drew)); exact HO_4.out, by repeat (first | (with_reducible first | exact HB.out | apply below_alloc | apply pw_below_drewN | apply below_drew1) | exact HB.out)⟩
      · rw [if_neg c2] at H
        have c2b0 : (x0_1.toList == ([] : List UInt8)) = false := beq_eq_false_iff_ne.mpr c2
        have c2b1 : (x0_1.toList != ([] : List UInt8)) = true := bne_iff_ne.mpr c2
        replace H := Option.bind_eq_some_iff.mp H
        obtain ⟨⟨t123, t124⟩, A30, H⟩ := H
        try dsimp only at H
        have A3 := Aside0.mk A30; clear A30
        by_cases c4 : t124 = 0
        · rw [if_pos c4] at H
          have c4b0 : (t124 == 0) = true := beq_iff_eq.mpr c4
          have c4b1 : (t124 != 0) = false := bne_eq_false_iff_eq.mpr c4
          clear c4
          simp only [Option.some.injEq, Prod.mk.injEq] at H
          obtain ⟨rfl, rfl⟩ := H
          go_wp2_with (first | ((with_reducible refine gate_callee (f := 31) rfl ?_); refine goesL_ (some 11) rfl rfl Tryd.func31 (by kernel_rfl) rfl #[.string x0_1] rfl (by (try simp only [List.map_toArray, List.map_cons, List.map_nil]); first | done | rfl | (simp only [List.length_drop, List.length_take]; rfl)) ?_; (with_reducible refine (deckleref07_next.calls k1 x0_1 t123 t124 _ ?side1 A3.out).mono ?_); (case side1 => first | exact hT | ((repeat (with_reducible first | exact hT | apply Tabs.drewN | apply Tabs.drew)); done) | exact Tabs.below hT (by repeat (first | (with_reducible first | exact HB.out | apply below_alloc | apply pw_below_drewN | apply below_drew1) | exact HB.out))); rintro e w' ⟨rfl, ⟨nd, rfl⟩⟩; refine ⟨_, rfl, ?_⟩))
          go_ret2
          exact ⟨_, by first | rfl | (simp [errW_none, errW_some] <;> rfl) | (simp [*, errW_none, errW_some] <;> rfl) | (simp [errW_none, errW_some, bne_nil_, beq_nil_]; done) | (simp [*, errW_none, errW_some, bne_nil_, beq_nil_]; done), by first | exact Kd.R_nil _ _ _ _ _ | exact Kd.N_nil _ _ _ _ _ | exact Kd.V_nil _ _ _ _ _ | exact Kd.Q_nil _ _ _ _ _ | exact Kd.S_nil _ _ _ _ _, by repeat (first | (with_reducible first | exact HB.out | apply below_alloc | apply pw_below_drewN | apply below_drew1) | exact HB.out)⟩
        · rw [if_neg c4] at H
          have c4b0 : (t124 == 0) = false := beq_eq_false_iff_ne.mpr c4
          have c4b1 : (t124 != 0) = true := bne_iff_ne.mpr c4
          by_cases c5 : x4_1.length < 17592186044416
          · rw [if_pos c5] at H
            have LMc5 := Aside0.mk c5
            clear c5
            obtain ⟨y125, hy125⟩ : ∃ y_ : List Int, y_ = (x4_1 ++ [t123]) := ⟨_, rfl⟩
            replace H : (if 0 ≤ t124 then (if t124 ≤ (x0_1.size : Int) then (deckleref07_Signs.l0 k1 (x0_1.extract (t124 : Int).toNat x0_1.size) y125) else (none)) else (none)) = some (r1, r2) := by first | (rw [hy125]; with_reducible exact H) | (have H2_ := (Option.bind_some _ _).symm.trans H; rw [hy125]; with_reducible exact H2_) | (have H2_ := (Option.bind_some _ _).symm.trans H; with_reducible exact H2_) | with_reducible exact H | (rw [hy125]; exact H) | exact H
            have Ny125 := Aside0.mk hy125
            clear hy125
            by_cases c6 : 0 ≤ t124
            · rw [if_pos c6] at H
              have c6b0 := eq_true c6
              have c6b1 : decide (0 ≤ t124) = true := decide_eq_true c6
              clear c6
              by_cases c7 : t124 ≤ (x0_1.size : Int)
              · rw [if_pos c7] at H
                have c7b0 := eq_true c7
                have c7b1 : decide (t124 ≤ (x0_1.size : Int)) = true := decide_eq_true c7
                clear c7
                have H' := Aside0.mk H
                clear H
                go_wp2_with (first | ((with_reducible refine gate_callee (f := 31) rfl ?_); refine goesL_ (some 11) rfl rfl Tryd.func31 (by kernel_rfl) rfl #[.string x0_1] rfl (by (try simp only [List.map_toArray, List.map_cons, List.map_nil]); first | done | rfl | (simp only [List.length_drop, List.length_take]; rfl)) ?_; (with_reducible refine (deckleref07_next.calls k1 x0_1 t123 t124 _ ?side1 A3.out).mono ?_); (case side1 => first | exact hT | ((repeat (with_reducible first | exact hT | apply Tabs.drewN | apply Tabs.drew)); done) | exact Tabs.below hT (by repeat (first | (with_reducible first | exact HB.out | apply below_alloc | apply pw_below_drewN | apply below_drew1) | exact HB.out))); rintro e w' ⟨rfl, ⟨nd, rfl⟩⟩; refine ⟨_, rfl, ?_⟩) | ((with_reducible refine gate_builtin (b := .append) (xs := #[.tmp 16, .tmp 18]) rfl ?_); at_builtin; refine Kd.R_append (Kd.int .i64) (w0 := w) w.heap.size rfl (.tmp 16) (.tmp 18) 38 3 (.int .i64 0) 8 rfl Tryd.underlying38 info3 rfl (by decide) (by omega) u4 x4_1 t123 [.int .i64 t123] (fun _ => True) (fun _ => False) rfl rfl ?aP (fun _ hk => hk.elim) ?aF ?aO ?aB ?aS ?aL ?_; (case aP => exact rfl); (case aB => exact (by repeat (first | (with_reducible first | exact HB.out | apply below_alloc | apply pw_below_drewN | apply below_drew1) | exact HB.out))); (case aF => exact (fun _ _ => trivial)); (case aO => exact (by (with_reducible repeat (first | apply Kd.R_alloc | apply Kd.R_drewN | apply Kd.R_drew)); exact HO_4.out)); (case aS => exact (below_size (by repeat (first | (with_reducible first | exact HB.out | apply below_alloc | apply pw_below_drewN | apply below_drew1) | exact HB.out)))); (case aL => have := LMc5.out; omega); intro v126 w8 ho hb hg hat; rw [← Ny125.out] at ho; have n0_ := Aside0.mk (hb); have n1_ := Aside0.mk (ho); clear HB; clear HO_4; have HB := n0_; have HO127 := n1_; clear n0_ n1_; clear ho hb hg hat))
                go_roundg k1
                case measure => have := HK1.out; omega
                case rel => exact ⟨(x0_1.extract (t124 : Int).toNat x0_1.size), (y125), (by first | rfl | (simp; done) | (simp [*]; done)), H', ⟨by have := HK1.out; omega⟩, ⟨by (with_reducible repeat (first | apply Kd.R_alloc | apply Kd.R_drewN | apply Kd.R_drew)); exact HO127.out⟩, ⟨by repeat (first | (with_reducible first | exact HB.out | apply below_alloc | apply pw_below_drewN | apply below_drew1) | exact HB.out)⟩⟩
              · rw [if_neg c7] at H
                exact absurd H (by simp)
            · rw [if_neg c6] at H
              exact absurd H (by simp)
          · rw [if_neg c5] at H
            exact absurd H (by simp)

/-! ### deckleref07_table: function 32 -/
def deckleref07_table.f  : Option (List Int × ByteArray) := some ((([8592, 8594, 9076, 9075, 9077, 9082, 8711, 8710, 9049, 9109, 9054, 175, 215, 247, 8804, 8805, 8800, 8743, 8744, 8714, 8968, 8970, 8728, 9675, 9055, 9021, 9033, 8834, 8835, 8745, 8746, 9042, 9035, 9038, 9045, 9017, 9073, 9074, 8869, 8868, 8900, 9053, 168] : List Int)), (⟨#[108, 114, 112, 105, 119, 97, 103, 116, 84, 113, 81, 45, 120, 47, 60, 62, 61, 94, 118, 101, 117, 100, 111, 79, 42, 102, 121, 99, 67, 110, 85, 71, 72, 88, 70, 68, 86, 65, 98, 66, 59, 35, 58]⟩ : ByteArray))
set_option maxHeartbeats 8000000 in
set_option maxRecDepth 100000 in
theorem deckleref07_table.calls  (r1 : List Int) (r2 : ByteArray) (w : World) (hT : Tabs w) (h : deckleref07_table.f  = some (r1, r2)) :
    Calls Tryd.prog 32 #[] w fun e w' => ∃ v0_ : Value, e = .returned (.tuple #[v0_, .string r2]) ∧ Kd.R (Kd.int .i64) 3 w' w.heap.size (fun _ => True) v0_ r1 ∧ Below w.heap.size w w' := by
  have HB := Aside0.mk (Below.refl w.heap.size w)
  have H : (some ((([8592, 8594, 9076, 9075, 9077, 9082, 8711, 8710, 9049, 9109, 9054, 175, 215, 247, 8804, 8805, 8800, 8743, 8744, 8714, 8968, 8970, 8728, 9675, 9055, 9021, 9033, 8834, 8835, 8745, 8746, 9042, 9035, 9038, 9045, 9017, 9073, 9074, 8869, 8868, 8900, 9053, 168] : List Int)), (⟨#[108, 114, 112, 105, 119, 97, 103, 116, 84, 113, 81, 45, 120, 47, 60, 62, 61, 94, 118, 101, 117, 100, 111, 79, 42, 102, 121, 99, 67, 110, 85, 71, 72, 88, 70, 68, 86, 65, 98, 66, 59, 35, 58]⟩ : ByteArray))) = some (r1, r2) := h
  clear h
  obtain ⟨y128, hy128⟩ : ∃ y_ : List Int, y_ = (([8592, 8594, 9076, 9075, 9077, 9082, 8711, 8710, 9049, 9109, 9054, 175, 215, 247, 8804, 8805, 8800, 8743, 8744, 8714, 8968, 8970, 8728, 9675, 9055, 9021, 9033, 8834, 8835, 8745, 8746, 9042, 9035, 9038, 9045, 9017, 9073, 9074, 8869, 8868, 8900, 9053, 168] : List Int)) := ⟨_, rfl⟩
  replace H : (some (y128, (⟨#[108, 114, 112, 105, 119, 97, 103, 116, 84, 113, 81, 45, 120, 47, 60, 62, 61, 94, 118, 101, 117, 100, 111, 79, 42, 102, 121, 99, 67, 110, 85, 71, 72, 88, 70, 68, 86, 65, 98, 66, 59, 35, 58]⟩ : ByteArray))) = some (r1, r2) := by first | (rw [hy128]; with_reducible exact H) | (have H2_ := (Option.bind_some _ _).symm.trans H; rw [hy128]; with_reducible exact H2_) | (have H2_ := (Option.bind_some _ _).symm.trans H; with_reducible exact H2_) | with_reducible exact H | (rw [hy128]; exact H) | exact H
  have Ny128 := Aside0.mk hy128
  clear hy128
  simp only [Option.some.injEq, Prod.mk.injEq] at H
  obtain ⟨rfl, rfl⟩ := H
  go_enter Tryd.func32, Tryd.ntmps32
  go_wp2_with (first | ((with_reducible refine gate_dst (N := 2) rfl ?_); refine Kd.R_lit (Kd.int .i64) _ 3 ?hg (N := 2) ?hd (xs := ([8592, 8594, 9076, 9075, 9077, 9082, 8711, 8710, 9049, 9109, 9054, 175, 215, 247, 8804, 8805, 8800, 8743, 8744, 8714, 8968, 8970, 8728, 9675, 9055, 9021, 9033, 8834, 8835, 8745, 8746, 9042, 9035, 9038, 9045, 9017, 9073, 9074, 8869, 8868, 8900, 9053, 168] : List Int)) (inner := [.int .i64 8592, .int .i64 8594, .int .i64 9076, .int .i64 9075, .int .i64 9077, .int .i64 9082, .int .i64 8711, .int .i64 8710, .int .i64 9049, .int .i64 9109, .int .i64 9054, .int .i64 175, .int .i64 215, .int .i64 247, .int .i64 8804, .int .i64 8805, .int .i64 8800, .int .i64 8743, .int .i64 8744, .int .i64 8714, .int .i64 8968, .int .i64 8970, .int .i64 8728, .int .i64 9675, .int .i64 9055, .int .i64 9021, .int .i64 9033, .int .i64 8834, .int .i64 8835, .int .i64 8745, .int .i64 8746, .int .i64 9042, .int .i64 9035, .int .i64 9038, .int .i64 9045, .int .i64 9017, .int .i64 9073, .int .i64 9074, .int .i64 8869, .int .i64 8868, .int .i64 8900, .int .i64 9053, .int .i64 168]) (ok := fun _ => True) (okp := fun _ => True) ?hr ?hp (fun _ hk => hk) trivial (Below.refl _ _) (Nat.le_refl _) (by simp) ?_; (case hd => rfl); (case hg => rfl); (case hr => first | (go_simp; done) | (go_simp; rfl)); (case hp => exact (Reps.one (show Kd.M (Kd.int .i64) _ _ _ 8592 [.int .i64 8592] from rfl) (Reps.one (show Kd.M (Kd.int .i64) _ _ _ 8594 [.int .i64 8594] from rfl) (Reps.one (show Kd.M (Kd.int .i64) _ _ _ 9076 [.int .i64 9076] from rfl) (Reps.one (show Kd.M (Kd.int .i64) _ _ _ 9075 [.int .i64 9075] from rfl) (Reps.one (show Kd.M (Kd.int .i64) _ _ _ 9077 [.int .i64 9077] from rfl) (Reps.one (show Kd.M (Kd.int .i64) _ _ _ 9082 [.int .i64 9082] from rfl) (Reps.one (show Kd.M (Kd.int .i64) _ _ _ 8711 [.int .i64 8711] from rfl) (Reps.one (show Kd.M (Kd.int .i64) _ _ _ 8710 [.int .i64 8710] from rfl) (Reps.one (show Kd.M (Kd.int .i64) _ _ _ 9049 [.int .i64 9049] from rfl) (Reps.one (show Kd.M (Kd.int .i64) _ _ _ 9109 [.int .i64 9109] from rfl) (Reps.one (show Kd.M (Kd.int .i64) _ _ _ 9054 [.int .i64 9054] from rfl) (Reps.one (show Kd.M (Kd.int .i64) _ _ _ 175 [.int .i64 175] from rfl) (Reps.one (show Kd.M (Kd.int .i64) _ _ _ 215 [.int .i64 215] from rfl) (Reps.one (show Kd.M (Kd.int .i64) _ _ _ 247 [.int .i64 247] from rfl) (Reps.one (show Kd.M (Kd.int .i64) _ _ _ 8804 [.int .i64 8804] from rfl) (Reps.one (show Kd.M (Kd.int .i64) _ _ _ 8805 [.int .i64 8805] from rfl) (Reps.one (show Kd.M (Kd.int .i64) _ _ _ 8800 [.int .i64 8800] from rfl) (Reps.one (show Kd.M (Kd.int .i64) _ _ _ 8743 [.int .i64 8743] from rfl) (Reps.one (show Kd.M (Kd.int .i64) _ _ _ 8744 [.int .i64 8744] from rfl) (Reps.one (show Kd.M (Kd.int .i64) _ _ _ 8714 [.int .i64 8714] from rfl) (Reps.one (show Kd.M (Kd.int .i64) _ _ _ 8968 [.int .i64 8968] from rfl) (Reps.one (show Kd.M (Kd.int .i64) _ _ _ 8970 [.int .i64 8970] from rfl) (Reps.one (show Kd.M (Kd.int .i64) _ _ _ 8728 [.int .i64 8728] from rfl) (Reps.one (show Kd.M (Kd.int .i64) _ _ _ 9675 [.int .i64 9675] from rfl) (Reps.one (show Kd.M (Kd.int .i64) _ _ _ 9055 [.int .i64 9055] from rfl) (Reps.one (show Kd.M (Kd.int .i64) _ _ _ 9021 [.int .i64 9021] from rfl) (Reps.one (show Kd.M (Kd.int .i64) _ _ _ 9033 [.int .i64 9033] from rfl) (Reps.one (show Kd.M (Kd.int .i64) _ _ _ 8834 [.int .i64 8834] from rfl) (Reps.one (show Kd.M (Kd.int .i64) _ _ _ 8835 [.int .i64 8835] from rfl) (Reps.one (show Kd.M (Kd.int .i64) _ _ _ 8745 [.int .i64 8745] from rfl) (Reps.one (show Kd.M (Kd.int .i64) _ _ _ 8746 [.int .i64 8746] from rfl) (Reps.one (show Kd.M (Kd.int .i64) _ _ _ 9042 [.int .i64 9042] from rfl) (Reps.one (show Kd.M (Kd.int .i64) _ _ _ 9035 [.int .i64 9035] from rfl) (Reps.one (show Kd.M (Kd.int .i64) _ _ _ 9038 [.int .i64 9038] from rfl) (Reps.one (show Kd.M (Kd.int .i64) _ _ _ 9045 [.int .i64 9045] from rfl) (Reps.one (show Kd.M (Kd.int .i64) _ _ _ 9017 [.int .i64 9017] from rfl) (Reps.one (show Kd.M (Kd.int .i64) _ _ _ 9073 [.int .i64 9073] from rfl) (Reps.one (show Kd.M (Kd.int .i64) _ _ _ 9074 [.int .i64 9074] from rfl) (Reps.one (show Kd.M (Kd.int .i64) _ _ _ 8869 [.int .i64 8869] from rfl) (Reps.one (show Kd.M (Kd.int .i64) _ _ _ 8868 [.int .i64 8868] from rfl) (Reps.one (show Kd.M (Kd.int .i64) _ _ _ 8900 [.int .i64 8900] from rfl) (Reps.one (show Kd.M (Kd.int .i64) _ _ _ 9053 [.int .i64 9053] from rfl) (Reps.one (show Kd.M (Kd.int .i64) _ _ _ 168 [.int .i64 168] from rfl) (Reps.none _ _))))))))))))))))))))))))))))))))))))))))))))); intro v129 w1 ho2 hb hg_ hnew_; clear hg_ hnew_; (first | rw [← Ny128.out] at ho2 | (simp only [Int.reduceToNat] at ho2; rw [← Ny128.out] at ho2)); have n0_ := Aside0.mk (Kd.R_lower ho2 (below_size (by repeat (first | (with_reducible first | exact HB.out | apply below_alloc | apply pw_below_drewN | apply below_drew1) | exact HB.out)))); have n1_ := Aside0.mk (below_step (by repeat (first | (with_reducible first | exact HB.out | apply below_alloc | apply pw_below_drewN | apply below_drew1) | exact HB.out)) hb); clear HB; have HO130 := n0_; have HB := n1_; clear n0_ n1_; clear hb ho2))
  go_ret2
  exact ⟨_, by first | rfl | (simp [errW_none, errW_some] <;> rfl) | (simp [*, errW_none, errW_some] <;> rfl) | (simp [errW_none, errW_some, bne_nil_, beq_nil_]; done) | (simp [*, errW_none, errW_some, bne_nil_, beq_nil_]; done), by (with_reducible repeat (first | apply Kd.R_alloc | apply Kd.R_drewN | apply Kd.R_drew)); exact HO130.out, by repeat (first | (with_reducible first | exact HB.out | apply below_alloc | apply pw_below_drewN | apply below_drew1) | exact HB.out)⟩

/-! ### deckleref07_hex: function 33 -/
def deckleref07_hex.f : Nat → Int → Option (ByteArray)
  | 0, _ => none
  | k + 1, a0 => if a0 < 16 then (if 0 ≤ a0 then (if a0 ≤ (wrap64 (a0 + 1)) then (if (wrap64 (a0 + 1)) ≤ 16 then (some ((⟨#[48, 49, 50, 51, 52, 53, 54, 55, 56, 57, 65, 66, 67, 68, 69, 70]⟩ : ByteArray).extract (a0 : Int).toNat ((wrap64 (a0 + 1)) : Int).toNat)) else (none)) else (none)) else (none)) else ((deckleref07_hex.f k (wrap64 (Int.tdiv a0 16))).bind fun t131 => (if 0 ≤ (Int.tmod a0 16) then (if (Int.tmod a0 16) ≤ (wrap64 ((Int.tmod a0 16) + 1)) then (if (wrap64 ((Int.tmod a0 16) + 1)) ≤ 16 then (if t131.size + ((⟨#[48, 49, 50, 51, 52, 53, 54, 55, 56, 57, 65, 66, 67, 68, 69, 70]⟩ : ByteArray).extract ((Int.tmod a0 16) : Int).toNat ((wrap64 ((Int.tmod a0 16) + 1)) : Int).toNat).size ≤ 9223372036854775807 then (some (t131 ++ ((⟨#[48, 49, 50, 51, 52, 53, 54, 55, 56, 57, 65, 66, 67, 68, 69, 70]⟩ : ByteArray).extract ((Int.tmod a0 16) : Int).toNat ((wrap64 ((Int.tmod a0 16) + 1)) : Int).toNat))) else (none)) else (none)) else (none)) else (none)))
theorem deckleref07_hex.mono_l : ∀ k, (∀ y0, LeO (deckleref07_hex.f k y0) (deckleref07_hex.f (k + 1) y0))
  | 0 => fun _ r h => by simp [deckleref07_hex.f] at h
  | k + 1 => by
    have ih0 := deckleref07_hex.mono_l k
    · intro y0
      unfold deckleref07_hex.f
      repeat' first
      | (with_reducible exact ih0 _)
      | (with_reducible exact LeO.refl _)
      | (with_reducible exact LeO.none _)
      | (with_reducible refine LeO.ite ?_ ?_)
      | (with_reducible refine LeO.bind ?_ (fun _ => ?_))
      | exact ih0 _
      | exact LeO.none _
      | refine LeO.ite ?_ ?_
      | refine LeO.bind ?_ (fun _ => ?_)
theorem deckleref07_hex.mono : ∀ a0 k, LeO (deckleref07_hex.f k a0) (deckleref07_hex.f (k + 1) a0) := by
  intro a0 k
  have ih0 := deckleref07_hex.mono_l k
  exact ih0 a0
def deckleref07_hex.T4 : Bool × List (List Nat × List Nat) := (true, [([], []), ([0], [0]), ([1], [1]), ([], []), ([], []), ([4], [4]), ([], []), ([6], [6]), ([7], [7]), ([3, 5, 8], [3, 5, 8]), ([2, 9], [2, 9]), ([10, 2, 0, 1, 2, 3, 4, 5, 6, 7, 8, 9, 10], [10])])
def deckleref07_hex.B4 : List Nat := [0, 1, 3, 0, 0, 16, 0, 64, 192, 504, 1023, 2047]
theorem deckleref07_hex.tab4 : rtab .any (opsOf Tryd.f33 4) = deckleref07_hex.T4 := by kernel_rfl
theorem deckleref07_hex.bits4 : waitsOk deckleref07_hex.T4.2 deckleref07_hex.B4 = true := by kernel_rfl
set_option maxHeartbeats 8000000 in
set_option maxRecDepth 100000 in
theorem deckleref07_hex.calls (k : Nat) : ∀ (a0 : Int) (r : ByteArray) (w : World) (hT : Tabs w) (h : deckleref07_hex.f k a0 = some r),
    Calls Tryd.prog 33 #[.int .i64 a0] w fun e w' => e = .returned (.string r) ∧ Below w.heap.size w w' := by
  induction k using Nat.strongRecOn with
  | _ k ih =>
  intro a0 r w hT h
  cases k with
  | zero => exact absurd h (by simp [deckleref07_hex.f])
  | succ k =>
  simp only [deckleref07_hex.f] at h
  have HB := Aside0.mk (Below.refl w.heap.size w)
  have H : (if a0 < 16 then (if 0 ≤ a0 then (if a0 ≤ (wrap64 (a0 + 1)) then (if (wrap64 (a0 + 1)) ≤ 16 then (some ((⟨#[48, 49, 50, 51, 52, 53, 54, 55, 56, 57, 65, 66, 67, 68, 69, 70]⟩ : ByteArray).extract (a0 : Int).toNat ((wrap64 (a0 + 1)) : Int).toNat)) else (none)) else (none)) else (none)) else ((deckleref07_hex.f k (wrap64 (Int.tdiv a0 16))).bind fun t131 => (if 0 ≤ (Int.tmod a0 16) then (if (Int.tmod a0 16) ≤ (wrap64 ((Int.tmod a0 16) + 1)) then (if (wrap64 ((Int.tmod a0 16) + 1)) ≤ 16 then (if t131.size + ((⟨#[48, 49, 50, 51, 52, 53, 54, 55, 56, 57, 65, 66, 67, 68, 69, 70]⟩ : ByteArray).extract ((Int.tmod a0 16) : Int).toNat ((wrap64 ((Int.tmod a0 16) + 1)) : Int).toNat).size ≤ 9223372036854775807 then (some (t131 ++ ((⟨#[48, 49, 50, 51, 52, 53, 54, 55, 56, 57, 65, 66, 67, 68, 69, 70]⟩ : ByteArray).extract ((Int.tmod a0 16) : Int).toNat ((wrap64 ((Int.tmod a0 16) + 1)) : Int).toNat))) else (none)) else (none)) else (none)) else (none)))) = some r := h
  clear h
  by_cases c2 : a0 < 16
  · rw [if_pos c2] at H
    have c2b0 : decide (a0 < 16) = true := decide_eq_true c2
    clear c2
    by_cases c3 : 0 ≤ a0
    · rw [if_pos c3] at H
      have c3b0 := eq_true c3
      have c3b1 : decide (0 ≤ a0) = true := decide_eq_true c3
      clear c3
      by_cases c4 : a0 ≤ (wrap64 (a0 + 1))
      · rw [if_pos c4] at H
        have c4b0 := eq_true c4
        have c4b1 : decide (a0 ≤ (wrap64 (a0 + 1))) = true := decide_eq_true c4
        by_cases c5 : (wrap64 (a0 + 1)) ≤ 16
        · rw [if_pos c5] at H
          have c5b0 := eq_true c5
          have c5b1 : decide ((wrap64 (a0 + 1)) ≤ 16) = true := decide_eq_true c5
          obtain rfl := Option.some.inj H
          go_enter Tryd.func33, Tryd.ntmps33
          go_wp2
          go_ret
          exact ⟨by first | rfl | (simp [errW_none, errW_some] <;> rfl) | (simp [*, errW_none, errW_some] <;> rfl) | (simp [errW_none, errW_some, bne_nil_, beq_nil_]; done) | (simp [*, errW_none, errW_some, bne_nil_, beq_nil_]; done), by repeat (first | (with_reducible first | exact HB.out | apply below_alloc | apply pw_below_drewN | apply below_drew1) | exact HB.out)⟩
        · rw [if_neg c5] at H
          exact absurd H (by simp)
      · rw [if_neg c4] at H
        exact absurd H (by simp)
    · rw [if_neg c3] at H
      exact absurd H (by simp)
  · rw [if_neg c2] at H
    have c2b0 : decide (a0 < 16) = false := decide_eq_false c2
    clear c2
    replace H := Option.bind_eq_some_iff.mp H
    obtain ⟨t131, A60, H⟩ := H
    have A6 := Aside0.mk A60; clear A60
    obtain ⟨ji7, hji7⟩ : ∃ j_ : Int, (Int.tmod a0 16) = j_ := ⟨_, rfl⟩
    replace H : (if 0 ≤ (ji7) then (if (ji7) ≤ (wrap64 ((ji7) + 1)) then (if (wrap64 ((ji7) + 1)) ≤ 16 then (if t131.size + ((⟨#[48, 49, 50, 51, 52, 53, 54, 55, 56, 57, 65, 66, 67, 68, 69, 70]⟩ : ByteArray).extract ((ji7) : Int).toNat ((wrap64 ((ji7) + 1)) : Int).toNat).size ≤ 9223372036854775807 then (some (t131 ++ ((⟨#[48, 49, 50, 51, 52, 53, 54, 55, 56, 57, 65, 66, 67, 68, 69, 70]⟩ : ByteArray).extract ((ji7) : Int).toNat ((wrap64 ((ji7) + 1)) : Int).toNat))) else (none)) else (none)) else (none)) else (none)) = some r := by first | (rw [hji7] at H; exact H) | (simp only [hji7] at H ⊢; exact H)
    (try rw [hji7] at A6)
    by_cases c8 : 0 ≤ (ji7)
    · rw [if_pos c8] at H
      have c8b0 := eq_true c8
      have c8b1 : decide (0 ≤ (ji7)) = true := decide_eq_true c8
      clear c8
      by_cases c9 : (ji7) ≤ (wrap64 ((ji7) + 1))
      · rw [if_pos c9] at H
        have c9b0 := eq_true c9
        have c9b1 : decide ((ji7) ≤ (wrap64 ((ji7) + 1))) = true := decide_eq_true c9
        by_cases c10 : (wrap64 ((ji7) + 1)) ≤ 16
        · rw [if_pos c10] at H
          have c10b0 := eq_true c10
          have c10b1 : decide ((wrap64 ((ji7) + 1)) ≤ 16) = true := decide_eq_true c10
          by_cases c11 : t131.size + ((⟨#[48, 49, 50, 51, 52, 53, 54, 55, 56, 57, 65, 66, 67, 68, 69, 70]⟩ : ByteArray).extract ((ji7) : Int).toNat ((wrap64 ((ji7) + 1)) : Int).toNat).size ≤ 9223372036854775807
          · rw [if_pos c11] at H
            have c11b0 := eq_true c11
            have c11b1 : decide (t131.size + ((⟨#[48, 49, 50, 51, 52, 53, 54, 55, 56, 57, 65, 66, 67, 68, 69, 70]⟩ : ByteArray).extract ((ji7) : Int).toNat ((wrap64 ((ji7) + 1)) : Int).toNat).size ≤ 9223372036854775807) = true := decide_eq_true c11
            try have c11b2 : (9223372036854775807 < t131.size + ((⟨#[48, 49, 50, 51, 52, 53, 54, 55, 56, 57, 65, 66, 67, 68, 69, 70]⟩ : ByteArray).extract ((ji7) : Int).toNat ((wrap64 ((ji7) + 1)) : Int).toNat).size) = False := eq_false (Nat.not_lt.2 c11)
            try have c11b4 : (9223372036854775807 < t131.size + (((wrap64 ((ji7) + 1)) : Int).toNat - ((ji7) : Int).toNat)) = False := eq_false (Nat.not_lt.2 (by have h_ := c11; have hs_ : (⟨#[48, 49, 50, 51, 52, 53, 54, 55, 56, 57, 65, 66, 67, 68, 69, 70]⟩ : ByteArray).size = 16 := rfl; simp only [ByteArray.size_extract, hs_] at h_; omega))
            try have c11b5 : (9223372036854775807 < t131.size + (min ((wrap64 ((ji7) + 1)) : Int).toNat (⟨#[48, 49, 50, 51, 52, 53, 54, 55, 56, 57, 65, 66, 67, 68, 69, 70]⟩ : ByteArray).size - ((ji7) : Int).toNat)) = False := eq_false (Nat.not_lt.2 (by have h_ := c11; have hs_ : (⟨#[48, 49, 50, 51, 52, 53, 54, 55, 56, 57, 65, 66, 67, 68, 69, 70]⟩ : ByteArray).size = 16 := rfl; simp only [ByteArray.size_extract, hs_] at h_; omega))
            obtain rfl := Option.some.inj H
            go_enter Tryd.func33, Tryd.ntmps33
            try go_wp2
            have n0_ := Aside0.mk (below_drew1 HB.out)
            clear HB
            have HB := n0_
            clear n0_
            refine start_ (n := 12) (S := fun w' => True) (ds := []) #[false, false, false, false, false, false, false, false, false, false, false, false] (by kernel_rfl) rfl rfl trivial (fun hHeld => ?_); refine with_tabW deckleref07_hex.tab4 deckleref07_hex.bits4 (fun HT_ HW_ => ?_)
            generalize w.drew = w12 at HB hHeld ⊢
            refine pure_ (i := 0) (N := some 11) (v := ?_) (a' := ?_) #[true, false, false, false, false, false, false, false, false, false, false, false] rfl rfl (any_of HT_.out (by kernel_rfl)) (fun _ _ _ h => h) (Or.inl ⟨by rfl, ?_⟩) ?_ ?_
            rotate_left
            · intro w'
              go_simp
              with_reducible rfl
            rotate_left
            · simp only [Act.put, List.setIfInBounds_toArray, List.set_cons_zero, List.set_cons_succ, i64_w, i32_w]
              rfl
            refine pure_ (i := 1) (N := some 12) (v := ?_) (a' := ?_) #[true, true, false, false, false, false, false, false, false, false, false, false] rfl rfl (any_of HT_.out (by kernel_rfl)) (fun _ _ _ h => h) (Or.inl ⟨by rfl, ?_⟩) ?_ ?_
            rotate_left
            · intro w'
              go_simp
              with_reducible rfl
            rotate_left
            · simp only [Act.put, List.setIfInBounds_toArray, List.set_cons_zero, List.set_cons_succ, i64_w, i32_w]
              rfl
            refine pure_ (i := 3) (N := some 14) (v := ?_) (a' := ?_) #[true, true, false, true, false, false, false, false, false, false, false, false] rfl rfl (any_of HT_.out (by kernel_rfl)) (fun _ _ _ h => h) (Or.inl ⟨by rfl, ?_⟩) ?_ ?_
            rotate_left
            · intro w'
              go_simp
              with_reducible rfl
            rotate_left
            · simp only [Act.put, List.setIfInBounds_toArray, List.set_cons_zero, List.set_cons_succ, i64_w, i32_w]
              rfl
            refine pure_ (i := 4) (N := some 15) (v := ?_) (a' := ?_) #[true, true, false, true, true, false, false, false, false, false, false, false] rfl rfl (any_of HT_.out (by kernel_rfl)) (fun _ _ _ h => h) (Or.inl ⟨by rfl, ?_⟩) ?_ ?_
            rotate_left
            · intro w'
              go_simp
              with_reducible rfl
            rotate_left
            · simp only [Act.put, List.setIfInBounds_toArray, List.set_cons_zero, List.set_cons_succ, i64_w, i32_w]
              rfl
            refine pure_ (i := 5) (N := some 16) (v := ?_) (a' := ?_) #[true, true, false, true, true, true, false, false, false, false, false, false] rfl rfl (any_of HT_.out (by kernel_rfl)) (fun _ _ _ h => h) (Or.inl ⟨by rfl, ?_⟩) ?_ ?_
            rotate_left
            · intro w'
              go_simp
              with_reducible rfl
            rotate_left
            · simp only [Act.put, List.setIfInBounds_toArray, List.set_cons_zero, List.set_cons_succ, i64_w, i32_w]
              rfl
            refine pure_ (i := 6) (N := some 17) (v := ?_) (a' := ?_) #[true, true, false, true, true, true, true, false, false, false, false, false] rfl rfl (any_of HT_.out (by kernel_rfl)) (fun _ _ _ h => h) (Or.inl ⟨by rfl, ?_⟩) ?_ ?_
            rotate_left
            · intro w'
              go_simp
              with_reducible rfl
            rotate_left
            · simp only [Act.put, List.setIfInBounds_toArray, List.set_cons_zero, List.set_cons_succ, i64_w, i32_w]
              rfl
            refine pure_ (i := 7) (N := some 18) (v := ?_) (a' := ?_) #[true, true, false, true, true, true, true, true, false, false, false, false] rfl rfl (any_of HT_.out (by kernel_rfl)) (fun _ _ _ h => h) (Or.inl ⟨by rfl, ?_⟩) ?_ ?_
            rotate_left
            · intro w'
              go_simp
              with_reducible rfl
            rotate_left
            · simp only [Act.put, List.setIfInBounds_toArray, List.set_cons_zero, List.set_cons_succ, i64_w, i32_w]
              rfl
            refine pure_ (i := 8) (N := some 19) (v := ?_) (a' := ?_) #[true, true, false, true, true, true, true, true, true, false, false, false] rfl rfl (any_of HT_.out (by kernel_rfl)) (fun _ _ _ h => h) (Or.inl ⟨by rfl, ?_⟩) ?_ ?_
            rotate_left
            · intro w'
              go_simp
              with_reducible rfl
            rotate_left
            · simp only [Act.put, List.setIfInBounds_toArray, List.set_cons_zero, List.set_cons_succ, i64_w, i32_w]
              rfl
            refine pure_ (i := 9) (N := some 20) (v := ?_) (a' := ?_) #[true, true, false, true, true, true, true, true, true, true, false, false] rfl rfl (any_of HT_.out (by kernel_rfl)) (fun _ _ _ h => h) (Or.inl ⟨by rfl, ?_⟩) ?_ ?_
            rotate_left
            · intro w'
              go_simp
              with_reducible rfl
            rotate_left
            · simp only [Act.put, List.setIfInBounds_toArray, List.set_cons_zero, List.set_cons_succ, i64_w, i32_w]
              rfl
            refine one_ (i := 2) (N := some 13) #[true, true, true, true, true, true, true, true, true, true, false, false] rfl rfl (one_of HT_.out (by kernel_rfl)) (by decide) (fun K hK => ?_)
            refine goes_ Tryd.func33 (by kernel_rfl) rfl #[.int .i64 (wrap64 (Int.tdiv a0 16))] (by rfl) rfl rfl (by (try simp only [List.map_toArray, List.map_cons, List.map_nil]); first | done | rfl | (simp only [List.length_drop, List.length_take]; rfl)) ?_
            with_reducible refine (ih k (by omega) (wrap64 (Int.tdiv a0 16)) t131 _ ?side1 A6.out).mono ?_
            (case side1 => first | exact hT | ((repeat (with_reducible first | exact hT | apply Tabs.drewN | apply Tabs.drew)); done) | exact Tabs.below hT (by repeat (first | (with_reducible first | exact HB.out | apply below_alloc | apply pw_below_drewN | apply below_drew1) | exact HB.out)))
            rintro e w13 ⟨rfl, hb⟩
            refine ⟨_, rfl, ?_⟩
            have n0_ := Aside0.mk (below_step (by repeat (first | (with_reducible first | exact HB.out | apply below_alloc | apply pw_below_drewN | apply below_drew1) | exact HB.out)) hb)
            clear HB
            have HB := n0_
            clear n0_
            (try clear hb)
            (try clear hb2)
            (try clear hk)
            (try clear hi)
            refine hK.out _ _ trivial (fun hHeld => ?_)
            clear hK K
            refine norm_ (a' := ?_) ?_ ?_
            rotate_left
            · show Act.put _ (some 13) _ = _
              simp only [Act.put, List.setIfInBounds_toArray, List.set_cons_zero, List.set_cons_succ, i64_w, i32_w]
              rfl
            refine pure_ (i := 10) (N := some 21) (v := ?_) (a' := ?_) #[true, true, true, true, true, true, true, true, true, true, true, false] rfl rfl (any_of HT_.out (by kernel_rfl)) (fun _ _ _ h => h) (Or.inl ⟨by rfl, ?_⟩) ?_ ?_
            rotate_left
            · intro w'
              go_simp
              with_reducible rfl
            rotate_left
            · simp only [Act.put, List.setIfInBounds_toArray, List.set_cons_zero, List.set_cons_succ, i64_w, i32_w]
              rfl
            refine pure_ (i := 11) (N := some 2) (v := ?_) (a' := ?_) #[true, true, true, true, true, true, true, true, true, true, true, true] rfl rfl (any_of HT_.out (by kernel_rfl)) (fun _ _ _ h => h) (Or.inl ⟨by rfl, ?_⟩) ?_ ?_
            rotate_left
            · intro w'
              go_simp
              with_reducible rfl
            rotate_left
            · simp only [Act.put, List.setIfInBounds_toArray, List.set_cons_zero, List.set_cons_succ, i64_w, i32_w]
              rfl
            refine done_ (done_of HT_.out (by kernel_rfl)) ?_
            try go_wp2
            go_ret
            exact ⟨by first | rfl | (simp [errW_none, errW_some] <;> rfl) | (simp only [← hji7]; first | rfl | (simp [errW_none, errW_some] <;> rfl)) | (simp [*, errW_none, errW_some] <;> rfl) | (simp [errW_none, errW_some, bne_nil_, beq_nil_]; done) | (simp [*, errW_none, errW_some, bne_nil_, beq_nil_]; done), by repeat (first | (with_reducible first | exact HB.out | apply below_alloc | apply pw_below_drewN | apply below_drew1) | exact HB.out)⟩
          · rw [if_neg c11] at H
            exact absurd H (by simp)
        · rw [if_neg c10] at H
          exact absurd H (by simp)
      · rw [if_neg c9] at H
        exact absurd H (by simp)
    · rw [if_neg c8] at H
      exact absurd H (by simp)

end Go.Proofs.YtenngdkgahngjaaDoor.All
