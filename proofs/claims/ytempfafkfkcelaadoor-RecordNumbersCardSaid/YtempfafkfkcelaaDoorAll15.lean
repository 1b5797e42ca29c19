-- Written for this claim by wip/tools/gprint.py out of the translation (it drives the kit's print). Lean checks it.
import Derived.Test.YtempfafkfkcelaaDoorAll0
import Derived.Test.YtempfafkfkcelaaDoorAll2
import Derived.Test.YtempfafkfkcelaaDoorAll5
namespace Go.Proofs.YtempfafkfkcelaaDoor.All
open Go.RowKit Go.Proofs.YtempfafkfkcelaaDoorW.PrintWords Go.Proofs.YtempfafkfkcelaaDoorW.PrintLast Go.Proofs.YtempfafkfkcelaaDoorW.PrintMore Go.Proofs.YtempfafkfkcelaaDoor.G
attribute [local go_sem] max2_int min2_int max_two min_two max_three min_three max_four min_four str_leq str_gtr str_geq   -- for this text's walks alone
set_option linter.unusedVariables false
set_option linter.unusedSimpArgs false

/-! ### decklelaw20_RecordNumbers_t: function 7 -/
def decklelaw20_RecordNumbers_t.f (k : Nat) (a0 : ByteArray) (a1 : Int) (a2 : Int) : Option (Bool) := (decklelaw20_small.f k).bind fun t262 => ((record_Line.f 88 a0 a1).bind fun bt263 => ((record_Line.f 88 a0 a2).bind fun bt265 => (if (a0.size : Int) > 71 then (some t262) else (if a1 < 0 then (some t262) else (if a2 < 0 then (some t262) else (if bt263.2 = true then ((record_Read.f k bt263.1 a2).bind fun bt267 => (if t262 = true then (if bt265.2 = true then (if ((bt263.1.toList == bt265.1.toList) == ((Int.tmod a1 100000000) == (Int.tmod a2 100000000))) = true then (if (bt267.2.2 == (bt263.1.toList == bt265.1.toList)) = true then (some ((bt263.1.size : Int) == 80)) else (some false)) else (some false)) else (some false)) else (some false))) else (some t262)))))))
theorem decklelaw20_RecordNumbers_t.mono : ∀ a0 a1 a2 k, LeO (decklelaw20_RecordNumbers_t.f k a0 a1 a2) (decklelaw20_RecordNumbers_t.f (k + 1) a0 a1 a2) := by
  intro a0 a1 a2 k
  unfold decklelaw20_RecordNumbers_t.f
  repeat' first
      | (with_reducible exact decklelaw20_small.mono _)
      | (with_reducible exact record_Read.mono _ _ _)
      | (with_reducible exact LeO.refl _)
      | (with_reducible exact LeO.none _)
      | (with_reducible refine LeO.ite ?_ ?_)
      | (with_reducible refine LeO.bind ?_ (fun _ => ?_))
      | exact decklelaw20_small.mono _
      | exact record_Read.mono _ _ _
      | exact LeO.none _
      | refine LeO.ite ?_ ?_
      | refine LeO.bind ?_ (fun _ => ?_)
set_option maxHeartbeats 8000000 in
set_option maxRecDepth 100000 in
theorem decklelaw20_RecordNumbers_t.calls (k : Nat) (a0 : ByteArray) (a1 : Int) (a2 : Int) (r : Bool) (w : World) (hT : Tabs w) (hr : r = true) (h : decklelaw20_RecordNumbers_t.f k a0 a1 a2 = some r) :
    Calls Tryd.prog 7 #[.string a0, .int .i64 a1, .int .i64 a2] w fun e w' => e = .returned (.bool r) ∧ Below w.heap.size w w' := by
  have HB := Aside0.mk (Below.refl w.heap.size w)
  have H : ((decklelaw20_small.f k).bind fun t262 => ((record_Line.f 88 a0 a1).bind fun bt263 => ((record_Line.f 88 a0 a2).bind fun bt265 => (if (a0.size : Int) > 71 then (some t262) else (if a1 < 0 then (some t262) else (if a2 < 0 then (some t262) else (if bt263.2 = true then ((record_Read.f k bt263.1 a2).bind fun bt267 => (if t262 = true then (if bt265.2 = true then (if ((bt263.1.toList == bt265.1.toList) == ((Int.tmod a1 100000000) == (Int.tmod a2 100000000))) = true then (if (bt267.2.2 == (bt263.1.toList == bt265.1.toList)) = true then (some ((bt263.1.size : Int) == 80)) else (some false)) else (some false)) else (some false)) else (some false))) else (some t262)))))))) = some r := h
  clear h
  replace H := Option.bind_eq_some_iff.mp H
  obtain ⟨t262, A40, H⟩ := H
  have A4 := Aside0.mk A40; clear A40
  replace H := Option.bind_eq_some_iff.mp H
  obtain ⟨⟨t263, t264⟩, A50, H⟩ := H
  try dsimp only at H
  have A5 := Aside0.mk A50; clear A50
  replace H := Option.bind_eq_some_iff.mp H
  obtain ⟨⟨t265, t266⟩, A60, H⟩ := H
  try dsimp only at H
  have A6 := Aside0.mk A60; clear A60
  by_cases c7 : (a0.size : Int) > 71
  · rw [if_pos c7] at H
    have c7b0 : decide (71 < (a0.size : Int)) = true := decide_eq_true c7
    have c7b1 : decide (71 < a0.size) = true := decide_eq_true (by omega)
    clear c7
    clear hr
    obtain rfl := Option.some.inj H
    go_enter Tryd.func7, Tryd.ntmps7
    go_wp2_with (first | ((with_reducible refine gate_callee (f := 8) rfl ?_); refine goesL_ (some 15) rfl rfl Tryd.func8 (by kernel_rfl) rfl #[] rfl (by (try simp only [List.map_toArray, List.map_cons, List.map_nil]); first | done | rfl | (simp only [List.length_drop, List.length_take]; rfl)) ?_; (with_reducible refine (decklelaw20_small.calls k  t262 _ ?side1 A4.out).mono ?_); (case side1 => first | exact hT | exact Tabs.below hT (by repeat (first | (with_reducible first | exact HB.out | apply below_alloc | apply pw_below_drewN | apply below_drew1) | exact HB.out)) | ((repeat (first | exact hT | apply Tabs.drewN | apply Tabs.drew)); done)); rintro e w8 ⟨rfl, hb⟩; refine ⟨_, rfl, ?_⟩; have n0_ := Aside0.mk (below_step (by repeat (first | (with_reducible first | exact HB.out | apply below_alloc | apply pw_below_drewN | apply below_drew1) | exact HB.out)) hb); clear HB; have HB := n0_; clear n0_; (try clear hb); (try clear hb2); (try clear hk); (try clear hi)) | ((with_reducible refine gate_callee (f := 10) rfl ?_); refine goesL_ (some 19) rfl rfl Tryd.func10 (by kernel_rfl) rfl #[.int .u8 88, .string a0, .int .i64 a1] rfl (by (try simp only [List.map_toArray, List.map_cons, List.map_nil]); first | done | rfl | (simp only [List.length_drop, List.length_take]; rfl)) ?_; (with_reducible refine (record_Line.calls 88 a0 a1 t263 t264 _ ?side1 A5.out).mono ?_); (case side1 => first | exact hT | exact Tabs.below hT (by repeat (first | (with_reducible first | exact HB.out | apply below_alloc | apply pw_below_drewN | apply below_drew1) | exact HB.out)) | ((repeat (first | exact hT | apply Tabs.drewN | apply Tabs.drew)); done)); rintro e w9 ⟨rfl, hb⟩; refine ⟨_, rfl, ?_⟩; have n0_ := Aside0.mk (below_step (by repeat (first | (with_reducible first | exact HB.out | apply below_alloc | apply pw_below_drewN | apply below_drew1) | exact HB.out)) hb); clear HB; have HB := n0_; clear n0_; (try clear hb); (try clear hb2); (try clear hk); (try clear hi)) | ((with_reducible refine gate_callee (f := 10) rfl ?_); refine goesL_ (some 25) rfl rfl Tryd.func10 (by kernel_rfl) rfl #[.int .u8 88, .string a0, .int .i64 a2] rfl (by (try simp only [List.map_toArray, List.map_cons, List.map_nil]); first | done | rfl | (simp only [List.length_drop, List.length_take]; rfl)) ?_; (with_reducible refine (record_Line.calls 88 a0 a2 t265 t266 _ ?side1 A6.out).mono ?_); (case side1 => first | exact hT | exact Tabs.below hT (by repeat (first | (with_reducible first | exact HB.out | apply below_alloc | apply pw_below_drewN | apply below_drew1) | exact HB.out)) | ((repeat (first | exact hT | apply Tabs.drewN | apply Tabs.drew)); done)); rintro e w10 ⟨rfl, hb⟩; refine ⟨_, rfl, ?_⟩; have n0_ := Aside0.mk (below_step (by repeat (first | (with_reducible first | exact HB.out | apply below_alloc | apply pw_below_drewN | apply below_drew1) | exact HB.out)) hb); clear HB; have HB := n0_; clear n0_; (try clear hb); (try clear hb2); (try clear hk); (try clear hi)))
    go_ret
    exact ⟨by first | rfl | (simp [errW_none, errW_some] <;> rfl) | (simp [*, errW_none, errW_some] <;> rfl) | (simp [errW_none, errW_some, bne_nil_, beq_nil_]; done) | (simp [*, errW_none, errW_some, bne_nil_, beq_nil_]; done), by repeat (first | (with_reducible first | exact HB.out | apply below_alloc | apply pw_below_drewN | apply below_drew1) | exact HB.out)⟩
  · rw [if_neg c7] at H
    have c7b0 : decide (71 < (a0.size : Int)) = false := decide_eq_false c7
    have c7b1 : decide (71 < a0.size) = false := decide_eq_false (by omega)
    clear c7
    by_cases c11 : a1 < 0
    · rw [if_pos c11] at H
      have c11b0 : decide (a1 < 0) = true := decide_eq_true c11
      clear c11
      clear hr
      obtain rfl := Option.some.inj H
      go_enter Tryd.func7, Tryd.ntmps7
      go_wp2_with (first | ((with_reducible refine gate_callee (f := 8) rfl ?_); refine goesL_ (some 15) rfl rfl Tryd.func8 (by kernel_rfl) rfl #[] rfl (by (try simp only [List.map_toArray, List.map_cons, List.map_nil]); first | done | rfl | (simp only [List.length_drop, List.length_take]; rfl)) ?_; (with_reducible refine (decklelaw20_small.calls k  t262 _ ?side1 A4.out).mono ?_); (case side1 => first | exact hT | exact Tabs.below hT (by repeat (first | (with_reducible first | exact HB.out | apply below_alloc | apply pw_below_drewN | apply below_drew1) | exact HB.out)) | ((repeat (first | exact hT | apply Tabs.drewN | apply Tabs.drew)); done)); rintro e w12 ⟨rfl, hb⟩; refine ⟨_, rfl, ?_⟩; have n0_ := Aside0.mk (below_step (by repeat (first | (with_reducible first | exact HB.out | apply below_alloc | apply pw_below_drewN | apply below_drew1) | exact HB.out)) hb); clear HB; have HB := n0_; clear n0_; (try clear hb); (try clear hb2); (try clear hk); (try clear hi)) | ((with_reducible refine gate_callee (f := 10) rfl ?_); refine goesL_ (some 19) rfl rfl Tryd.func10 (by kernel_rfl) rfl #[.int .u8 88, .string a0, .int .i64 a1] rfl (by (try simp only [List.map_toArray, List.map_cons, List.map_nil]); first | done | rfl | (simp only [List.length_drop, List.length_take]; rfl)) ?_; (with_reducible refine (record_Line.calls 88 a0 a1 t263 t264 _ ?side1 A5.out).mono ?_); (case side1 => first | exact hT | exact Tabs.below hT (by repeat (first | (with_reducible first | exact HB.out | apply below_alloc | apply pw_below_drewN | apply below_drew1) | exact HB.out)) | ((repeat (first | exact hT | apply Tabs.drewN | apply Tabs.drew)); done)); rintro e w13 ⟨rfl, hb⟩; refine ⟨_, rfl, ?_⟩; have n0_ := Aside0.mk (below_step (by repeat (first | (with_reducible first | exact HB.out | apply below_alloc | apply pw_below_drewN | apply below_drew1) | exact HB.out)) hb); clear HB; have HB := n0_; clear n0_; (try clear hb); (try clear hb2); (try clear hk); (try clear hi)) | ((with_reducible refine gate_callee (f := 10) rfl ?_); refine goesL_ (some 25) rfl rfl Tryd.func10 (by kernel_rfl) rfl #[.int .u8 88, .string a0, .int .i64 a2] rfl (by (try simp only [List.map_toArray, List.map_cons, List.map_nil]); first | done | rfl | (simp only [List.length_drop, List.length_take]; rfl)) ?_; (with_reducible refine (record_Line.calls 88 a0 a2 t265 t266 _ ?side1 A6.out).mono ?_); (case side1 => first | exact hT | exact Tabs.below hT (by repeat (first | (with_reducible first | exact HB.out | apply below_alloc | apply pw_below_drewN | apply below_drew1) | exact HB.out)) | ((repeat (first | exact hT | apply Tabs.drewN | apply Tabs.drew)); done)); rintro e w14 ⟨rfl, hb⟩; refine ⟨_, rfl, ?_⟩; have n0_ := Aside0.mk (below_step (by repeat (first | (with_reducible first | exact HB.out | apply below_alloc | apply pw_below_drewN | apply below_drew1) | exact HB.out)) hb); clear HB; have HB := n0_; clear n0_; (try clear hb); (try clear hb2); (try clear hk); (try clear hi)))
      go_ret
      exact ⟨by first | rfl | (simp [errW_none, errW_some] <;> rfl) | (simp [*, errW_none, errW_some] <;> rfl) | (simp [errW_none, errW_some, bne_nil_, beq_nil_]; done) | (simp [*, errW_none, errW_some, bne_nil_, beq_nil_]; done), by repeat (first | (with_reducible first | exact HB.out | apply below_alloc | apply pw_below_drewN | apply below_drew1) | exact HB.out)⟩
    · rw [if_neg c11] at H
      have c11b0 : decide (a1 < 0) = false := decide_eq_false c11
      clear c11
      by_cases c15 : a2 < 0
      · rw [if_pos c15] at H
        have c15b0 : decide (a2 < 0) = true := decide_eq_true c15
        clear c15
        clear hr
        obtain rfl := Option.some.inj H
        go_enter Tryd.func7, Tryd.ntmps7
        go_wp2_with (first | ((with_reducible refine gate_callee (f := 8) rfl ?_); refine goesL_ (some 15) rfl rfl Tryd.func8 (by kernel_rfl) rfl #[] rfl (by (try simp only [List.map_toArray, List.map_cons, List.map_nil]); first | done | rfl | (simp only [List.length_drop, List.length_take]; rfl)) ?_; (with_reducible refine (decklelaw20_small.calls k  t262 _ ?side1 A4.out).mono ?_); (case side1 => first | exact hT | exact Tabs.below hT (by repeat (first | (with_reducible first | exact HB.out | apply below_alloc | apply pw_below_drewN | apply below_drew1) | exact HB.out)) | ((repeat (first | exact hT | apply Tabs.drewN | apply Tabs.drew)); done)); rintro e w16 ⟨rfl, hb⟩; refine ⟨_, rfl, ?_⟩; have n0_ := Aside0.mk (below_step (by repeat (first | (with_reducible first | exact HB.out | apply below_alloc | apply pw_below_drewN | apply below_drew1) | exact HB.out)) hb); clear HB; have HB := n0_; clear n0_; (try clear hb); (try clear hb2); (try clear hk); (try clear hi)) | ((with_reducible refine gate_callee (f := 10) rfl ?_); refine goesL_ (some 19) rfl rfl Tryd.func10 (by kernel_rfl) rfl #[.int .u8 88, .string a0, .int .i64 a1] rfl (by (try simp only [List.map_toArray, List.map_cons, List.map_nil]); first | done | rfl | (simp only [List.length_drop, List.length_take]; rfl)) ?_; (with_reducible refine (record_Line.calls 88 a0 a1 t263 t264 _ ?side1 A5.out).mono ?_); (case side1 => first | exact hT | exact Tabs.below hT (by repeat (first | (with_reducible first | exact HB.out | apply below_alloc | apply pw_below_drewN | apply below_drew1) | exact HB.out)) | ((repeat (first | exact hT | apply Tabs.drewN | apply Tabs.drew)); done)); rintro e w17 ⟨rfl, hb⟩; refine ⟨_, rfl, ?_⟩; have n0_ := Aside0.mk (below_step (by repeat (first | (with_reducible first | exact HB.out | apply below_alloc | apply pw_below_drewN | apply below_drew1) | exact HB.out)) hb); clear HB; have HB := n0_; clear n0_; (try clear hb); (try clear hb2); (try clear hk); (try clear hi)) | ((with_reducible refine gate_callee (f := 10) rfl ?_); refine goesL_ (some 25) rfl rfl Tryd.func10 (by kernel_rfl) rfl #[.int .u8 88, .string a0, .int .i64 a2] rfl (by (try simp only [List.map_toArray, List.map_cons, List.map_nil]); first | done | rfl | (simp only [List.length_drop, List.length_take]; rfl)) ?_; (with_reducible refine (record_Line.calls 88 a0 a2 t265 t266 _ ?side1 A6.out).mono ?_); (case side1 => first | exact hT | exact Tabs.below hT (by repeat (first | (with_reducible first | exact HB.out | apply below_alloc | apply pw_below_drewN | apply below_drew1) | exact HB.out)) | ((repeat (first | exact hT | apply Tabs.drewN | apply Tabs.drew)); done)); rintro e w18 ⟨rfl, hb⟩; refine ⟨_, rfl, ?_⟩; have n0_ := Aside0.mk (below_step (by repeat (first | (with_reducible first | exact HB.out | apply below_alloc | apply pw_below_drewN | apply below_drew1) | exact HB.out)) hb); clear HB; have HB := n0_; clear n0_; (try clear hb); (try clear hb2); (try clear hk); (try clear hi)))
        go_ret
        exact ⟨by first | rfl | (simp [errW_none, errW_some] <;> rfl) | (simp [*, errW_none, errW_some] <;> rfl) | (simp [errW_none, errW_some, bne_nil_, beq_nil_]; done) | (simp [*, errW_none, errW_some, bne_nil_, beq_nil_]; done), by repeat (first | (with_reducible first | exact HB.out | apply below_alloc | apply pw_below_drewN | apply below_drew1) | exact HB.out)⟩
      · rw [if_neg c15] at H
        have c15b0 : decide (a2 < 0) = false := decide_eq_false c15
        clear c15
        by_cases c19 : t264 = true
        · subst c19
          rw [if_pos rfl] at H
          replace H := Option.bind_eq_some_iff.mp H
          obtain ⟨⟨t267, t268, t269⟩, A200, H⟩ := H
          try dsimp only at H
          have A20 := Aside0.mk A200; clear A200
          by_cases c21 : t262 = true
          · subst c21
            rw [if_pos rfl] at H
            by_cases c22 : t266 = true
            · subst c22
              rw [if_pos rfl] at H
              by_cases c23 : ((t263.toList == t265.toList) == ((Int.tmod a1 100000000) == (Int.tmod a2 100000000))) = true
              · rw [if_pos c23] at H
                have c23b0 : ((t263.toList == t265.toList) == ((Int.tmod a1 100000000) == (Int.tmod a2 100000000))) = true := c23
                (try (have c23b1 : decide ((t263.toList == t265.toList) = ((Int.tmod a1 100000000) == (Int.tmod a2 100000000))) = true := by simpa using c23))
                (try (have c23b2 : ((t263.toList == t265.toList) == ((Int.tmod a1 100000000) == (Int.tmod a2 100000000))) = true := by simpa using c23))
                clear c23
                by_cases c24 : (t269 == (t263.toList == t265.toList)) = true
                · rw [if_pos c24] at H
                  have c24b0 : (t269 == (t263.toList == t265.toList)) = true := c24
                  (try (have c24b1 : decide (t269 = (t263.toList == t265.toList)) = true := by simpa using c24))
                  (try (have c24b2 : (t269 == (t263.toList == t265.toList)) = true := by simpa using c24))
                  clear c24
                  clear hr
                  obtain rfl := Option.some.inj H
                  go_enter Tryd.func7, Tryd.ntmps7
                  go_wp2_with (first | ((with_reducible refine gate_callee (f := 8) rfl ?_); refine goesL_ (some 15) rfl rfl Tryd.func8 (by kernel_rfl) rfl #[] rfl (by (try simp only [List.map_toArray, List.map_cons, List.map_nil]); first | done | rfl | (simp only [List.length_drop, List.length_take]; rfl)) ?_; (with_reducible refine (decklelaw20_small.calls k  true _ ?side1 A4.out).mono ?_); (case side1 => first | exact hT | exact Tabs.below hT (by repeat (first | (with_reducible first | exact HB.out | apply below_alloc | apply pw_below_drewN | apply below_drew1) | exact HB.out)) | ((repeat (first | exact hT | apply Tabs.drewN | apply Tabs.drew)); done)); rintro e w25 ⟨rfl, hb⟩; refine ⟨_, rfl, ?_⟩; have n0_ := Aside0.mk (below_step (by repeat (first | (with_reducible first | exact HB.out | apply below_alloc | apply pw_below_drewN | apply below_drew1) | exact HB.out)) hb); clear HB; have HB := n0_; clear n0_; (try clear hb); (try clear hb2); (try clear hk); (try clear hi)) | ((with_reducible refine gate_callee (f := 10) rfl ?_); refine goesL_ (some 19) rfl rfl Tryd.func10 (by kernel_rfl) rfl #[.int .u8 88, .string a0, .int .i64 a1] rfl (by (try simp only [List.map_toArray, List.map_cons, List.map_nil]); first | done | rfl | (simp only [List.length_drop, List.length_take]; rfl)) ?_; (with_reducible refine (record_Line.calls 88 a0 a1 t263 true _ ?side1 A5.out).mono ?_); (case side1 => first | exact hT | exact Tabs.below hT (by repeat (first | (with_reducible first | exact HB.out | apply below_alloc | apply pw_below_drewN | apply below_drew1) | exact HB.out)) | ((repeat (first | exact hT | apply Tabs.drewN | apply Tabs.drew)); done)); rintro e w26 ⟨rfl, hb⟩; refine ⟨_, rfl, ?_⟩; have n0_ := Aside0.mk (below_step (by repeat (first | (with_reducible first | exact HB.out | apply below_alloc | apply pw_below_drewN | apply below_drew1) | exact HB.out)) hb); clear HB; have HB := n0_; clear n0_; (try clear hb); (try clear hb2); (try clear hk); (try clear hi)) | ((with_reducible refine gate_callee (f := 10) rfl ?_); refine goesL_ (some 25) rfl rfl Tryd.func10 (by kernel_rfl) rfl #[.int .u8 88, .string a0, .int .i64 a2] rfl (by (try simp only [List.map_toArray, List.map_cons, List.map_nil]); first | done | rfl | (simp only [List.length_drop, List.length_take]; rfl)) ?_; (with_reducible refine (record_Line.calls 88 a0 a2 t265 true _ ?side1 A6.out).mono ?_); (case side1 => first | exact hT | exact Tabs.below hT (by repeat (first | (with_reducible first | exact HB.out | apply below_alloc | apply pw_below_drewN | apply below_drew1) | exact HB.out)) | ((repeat (first | exact hT | apply Tabs.drewN | apply Tabs.drew)); done)); rintro e w27 ⟨rfl, hb⟩; refine ⟨_, rfl, ?_⟩; have n0_ := Aside0.mk (below_step (by repeat (first | (with_reducible first | exact HB.out | apply below_alloc | apply pw_below_drewN | apply below_drew1) | exact HB.out)) hb); clear HB; have HB := n0_; clear n0_; (try clear hb); (try clear hb2); (try clear hk); (try clear hi)) | ((with_reducible refine gate_callee (f := 12) rfl ?_); refine goesL_ (some 47) rfl rfl Tryd.func12 (by kernel_rfl) rfl #[.string t263, .int .i64 a2] rfl (by (try simp only [List.map_toArray, List.map_cons, List.map_nil]); first | done | rfl | (simp only [List.length_drop, List.length_take]; rfl)) ?_; (with_reducible refine (record_Read.calls k t263 a2 t267 t268 t269 _ ?side1 A20.out).mono ?_); (case side1 => first | exact hT | exact Tabs.below hT (by repeat (first | (with_reducible first | exact HB.out | apply below_alloc | apply pw_below_drewN | apply below_drew1) | exact HB.out)) | ((repeat (first | exact hT | apply Tabs.drewN | apply Tabs.drew)); done)); rintro e w28 ⟨rfl, hb⟩; refine ⟨_, rfl, ?_⟩; have n0_ := Aside0.mk (below_step (by repeat (first | (with_reducible first | exact HB.out | apply below_alloc | apply pw_below_drewN | apply below_drew1) | exact HB.out)) hb); clear HB; have HB := n0_; clear n0_; (try clear hb); (try clear hb2); (try clear hk); (try clear hi)))
                  go_ret
                  exact ⟨by first | rfl | (simp [errW_none, errW_some] <;> rfl) | (simp [*, errW_none, errW_some] <;> rfl) | (simp [errW_none, errW_some, bne_nil_, beq_nil_]; done) | (simp [*, errW_none, errW_some, bne_nil_, beq_nil_]; done), by repeat (first | (with_reducible first | exact HB.out | apply below_alloc | apply pw_below_drewN | apply below_drew1) | exact HB.out)⟩
                · rw [if_neg c24] at H
                  have c24b0 : (t269 == (t263.toList == t265.toList)) = false := by simpa using c24
                  (try (have c24b1 : decide (t269 = (t263.toList == t265.toList)) = false := by simpa using c24))
                  (try (have c24b2 : (t269 == (t263.toList == t265.toList)) = false := by simpa using c24))
                  (try (have c24b3 : ¬ (t269 = (t263.toList == t265.toList)) := by simpa using c24))
                  clear c24
                  exact absurd (Option.some.inj H) (by rw [hr]; decide)
              · rw [if_neg c23] at H
                have c23b0 : ((t263.toList == t265.toList) == ((Int.tmod a1 100000000) == (Int.tmod a2 100000000))) = false := by simpa using c23
                (try (have c23b1 : decide ((t263.toList == t265.toList) = ((Int.tmod a1 100000000) == (Int.tmod a2 100000000))) = false := by simpa using c23))
                (try (have c23b2 : ((t263.toList == t265.toList) == ((Int.tmod a1 100000000) == (Int.tmod a2 100000000))) = false := by simpa using c23))
                (try (have c23b3 : ¬ ((t263.toList == t265.toList) = ((Int.tmod a1 100000000) == (Int.tmod a2 100000000))) := by simpa using c23))
                clear c23
                exact absurd (Option.some.inj H) (by rw [hr]; decide)
            · replace c22 := Bool.eq_false_iff.mpr c22
              subst c22
              rw [if_neg (show ¬ (false = true) by decide)] at H
              exact absurd (Option.some.inj H) (by rw [hr]; decide)
          · replace c21 := Bool.eq_false_iff.mpr c21
            subst c21
            rw [if_neg (show ¬ (false = true) by decide)] at H
            exact absurd (Option.some.inj H) (by rw [hr]; decide)
        · replace c19 := Bool.eq_false_iff.mpr c19
          subst c19
          rw [if_neg (show ¬ (false = true) by decide)] at H
          clear hr
          obtain rfl := Option.some.inj H
          go_enter Tryd.func7, Tryd.ntmps7
          go_wp2_with (first | ((with_reducible refine gate_callee (f := 8) rfl ?_); refine goesL_ (some 15) rfl rfl Tryd.func8 (by kernel_rfl) rfl #[] rfl (by (try simp only [List.map_toArray, List.map_cons, List.map_nil]); first | done | rfl | (simp only [List.length_drop, List.length_take]; rfl)) ?_; (with_reducible refine (decklelaw20_small.calls k  t262 _ ?side1 A4.out).mono ?_); (case side1 => first | exact hT | exact Tabs.below hT (by repeat (first | (with_reducible first | exact HB.out | apply below_alloc | apply pw_below_drewN | apply below_drew1) | exact HB.out)) | ((repeat (first | exact hT | apply Tabs.drewN | apply Tabs.drew)); done)); rintro e w29 ⟨rfl, hb⟩; refine ⟨_, rfl, ?_⟩; have n0_ := Aside0.mk (below_step (by repeat (first | (with_reducible first | exact HB.out | apply below_alloc | apply pw_below_drewN | apply below_drew1) | exact HB.out)) hb); clear HB; have HB := n0_; clear n0_; (try clear hb); (try clear hb2); (try clear hk); (try clear hi)) | ((with_reducible refine gate_callee (f := 10) rfl ?_); refine goesL_ (some 19) rfl rfl Tryd.func10 (by kernel_rfl) rfl #[.int .u8 88, .string a0, .int .i64 a1] rfl (by (try simp only [List.map_toArray, List.map_cons, List.map_nil]); first | done | rfl | (simp only [List.length_drop, List.length_take]; rfl)) ?_; (with_reducible refine (record_Line.calls 88 a0 a1 t263 false _ ?side1 A5.out).mono ?_); (case side1 => first | exact hT | exact Tabs.below hT (by repeat (first | (with_reducible first | exact HB.out | apply below_alloc | apply pw_below_drewN | apply below_drew1) | exact HB.out)) | ((repeat (first | exact hT | apply Tabs.drewN | apply Tabs.drew)); done)); rintro e w30 ⟨rfl, hb⟩; refine ⟨_, rfl, ?_⟩; have n0_ := Aside0.mk (below_step (by repeat (first | (with_reducible first | exact HB.out | apply below_alloc | apply pw_below_drewN | apply below_drew1) | exact HB.out)) hb); clear HB; have HB := n0_; clear n0_; (try clear hb); (try clear hb2); (try clear hk); (try clear hi)) | ((with_reducible refine gate_callee (f := 10) rfl ?_); refine goesL_ (some 25) rfl rfl Tryd.func10 (by kernel_rfl) rfl #[.int .u8 88, .string a0, .int .i64 a2] rfl (by (try simp only [List.map_toArray, List.map_cons, List.map_nil]); first | done | rfl | (simp only [List.length_drop, List.length_take]; rfl)) ?_; (with_reducible refine (record_Line.calls 88 a0 a2 t265 t266 _ ?side1 A6.out).mono ?_); (case side1 => first | exact hT | exact Tabs.below hT (by repeat (first | (with_reducible first | exact HB.out | apply below_alloc | apply pw_below_drewN | apply below_drew1) | exact HB.out)) | ((repeat (first | exact hT | apply Tabs.drewN | apply Tabs.drew)); done)); rintro e w31 ⟨rfl, hb⟩; refine ⟨_, rfl, ?_⟩; have n0_ := Aside0.mk (below_step (by repeat (first | (with_reducible first | exact HB.out | apply below_alloc | apply pw_below_drewN | apply below_drew1) | exact HB.out)) hb); clear HB; have HB := n0_; clear n0_; (try clear hb); (try clear hb2); (try clear hk); (try clear hi)))
          go_ret
          exact ⟨by first | rfl | (simp [errW_none, errW_some] <;> rfl) | (simp [*, errW_none, errW_some] <;> rfl) | (simp [errW_none, errW_some, bne_nil_, beq_nil_]; done) | (simp [*, errW_none, errW_some, bne_nil_, beq_nil_]; done), by repeat (first | (with_reducible first | exact HB.out | apply below_alloc | apply pw_below_drewN | apply below_drew1) | exact HB.out)⟩

end Go.Proofs.YtempfafkfkcelaaDoor.All
