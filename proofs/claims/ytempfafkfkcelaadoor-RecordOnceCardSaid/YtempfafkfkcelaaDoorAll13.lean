-- Written for this claim by wip/tools/gprint.py out of the translation (it drives the kit's print). Lean checks it.
import Derived.Test.YtempfafkfkcelaaDoorAll0
import Derived.Test.YtempfafkfkcelaaDoorAll2
import Derived.Test.YtempfafkfkcelaaDoorAll5
namespace Go.Proofs.YtempfafkfkcelaaDoor.All
open Go.RowKit Go.Proofs.YtempfafkfkcelaaDoorW.PrintWords Go.Proofs.YtempfafkfkcelaaDoorW.PrintLast Go.Proofs.YtempfafkfkcelaaDoorW.PrintMore Go.Proofs.YtempfafkfkcelaaDoor.G
attribute [local go_sem] max2_int min2_int max_two min_two max_three min_three max_four min_four str_leq str_gtr str_geq   -- for this text's walks alone
set_option linter.unusedVariables false
set_option linter.unusedSimpArgs false

/-! ### decklelaw20_RecordOnce_t: function 5 -/
def decklelaw20_RecordOnce_t.f (k : Nat) (a0 : ByteArray) (a1 : Int) : Option (Bool) := (decklelaw20_small.f k).bind fun t237 => (if (a0.size : Int) > 500 then (some t237) else ((record_Read.f k a0 a1).bind fun bt238 => (if bt238.2.2 = true then ((record_Line.f bt238.1 bt238.2.1 a1).bind fun bt241 => (if t237 = true then (if bt241.2 = true then (if bt241.1.toList = a0.toList then (if (a0.size : Int) = 80 then (some ((bt238.2.1.size : Int) == 71)) else (some false)) else (some false)) else (some false)) else (some false))) else (if t237 = true then (if bt238.1 = 0 then (some (bt238.2.1.toList == ([] : List UInt8))) else (some false)) else (some false)))))
theorem decklelaw20_RecordOnce_t.mono : ∀ a0 a1 k, LeO (decklelaw20_RecordOnce_t.f k a0 a1) (decklelaw20_RecordOnce_t.f (k + 1) a0 a1) := by
  intro a0 a1 k
  unfold decklelaw20_RecordOnce_t.f
  repeat' first
      | (with_reducible exact decklelaw20_small.mono _)
      | (with_reducible exact record_Read.mono _ _ _)
      | (with_reducible exact LeO.refl _)
      | (with_reducible exact LeO.none _)
      | (with_reducible refine LeO.ite ?_ ?_)
      | (with_reducible refine LeO.bind ?_ (fun _ => ?_))
      | exact decklelaw20_small.mono _
      | exact record_Read.mono _ _ _
      | exact LeO.none _
      | refine LeO.ite ?_ ?_
      | refine LeO.bind ?_ (fun _ => ?_)
set_option maxHeartbeats 8000000 in
set_option maxRecDepth 100000 in
theorem decklelaw20_RecordOnce_t.calls (k : Nat) (a0 : ByteArray) (a1 : Int) (r : Bool) (w : World) (hT : Tabs w) (hr : r = true) (h : decklelaw20_RecordOnce_t.f k a0 a1 = some r) :
    Calls Tryd.prog 5 #[.string a0, .int .i64 a1] w fun e w' => e = .returned (.bool r) ∧ Below w.heap.size w w' := by
  have HB := Aside0.mk (Below.refl w.heap.size w)
  have H : ((decklelaw20_small.f k).bind fun t237 => (if (a0.size : Int) > 500 then (some t237) else ((record_Read.f k a0 a1).bind fun bt238 => (if bt238.2.2 = true then ((record_Line.f bt238.1 bt238.2.1 a1).bind fun bt241 => (if t237 = true then (if bt241.2 = true then (if bt241.1.toList = a0.toList then (if (a0.size : Int) = 80 then (some ((bt238.2.1.size : Int) == 71)) else (some false)) else (some false)) else (some false)) else (some false))) else (if t237 = true then (if bt238.1 = 0 then (some (bt238.2.1.toList == ([] : List UInt8))) else (some false)) else (some false)))))) = some r := h
  clear h
  replace H := Option.bind_eq_some_iff.mp H
  obtain ⟨t237, A30, H⟩ := H
  have A3 := Aside0.mk A30; clear A30
  by_cases c4 : (a0.size : Int) > 500
  · rw [if_pos c4] at H
    have c4b0 : decide (500 < (a0.size : Int)) = true := decide_eq_true c4
    have c4b1 : decide (500 < a0.size) = true := decide_eq_true (by omega)
    clear c4
    clear hr
    obtain rfl := Option.some.inj H
    go_enter Tryd.func5, Tryd.ntmps5
    go_wp2_with (first | ((with_reducible refine gate_callee (f := 8) rfl ?_); refine goesL_ (some 11) rfl rfl Tryd.func8 (by kernel_rfl) rfl #[] rfl (by (try simp only [List.map_toArray, List.map_cons, List.map_nil]); first | done | rfl | (simp only [List.length_drop, List.length_take]; rfl)) ?_; (with_reducible refine (decklelaw20_small.calls k  t237 _ ?side1 A3.out).mono ?_); (case side1 => first | exact hT | exact Tabs.below hT (by repeat (first | (with_reducible first | exact HB.out | apply below_alloc | apply pw_below_drewN | apply below_drew1) | exact HB.out)) | ((repeat (first | exact hT | apply Tabs.drewN | apply Tabs.drew)); done)); rintro e w5 ⟨rfl, hb⟩; refine ⟨_, rfl, ?_⟩; have n0_ := Aside0.mk (below_step (by repeat (first | (with_reducible first | exact HB.out | apply below_alloc | apply pw_below_drewN | apply below_drew1) | exact HB.out)) hb); clear HB; have HB := n0_; clear n0_; (try clear hb); (try clear hb2); (try clear hk); (try clear hi)))
    go_ret
    exact ⟨by first | rfl | (simp [errW_none, errW_some] <;> rfl) | (simp [*, errW_none, errW_some] <;> rfl) | (simp [errW_none, errW_some, bne_nil_, beq_nil_]; done) | (simp [*, errW_none, errW_some, bne_nil_, beq_nil_]; done), by repeat (first | (with_reducible first | exact HB.out | apply below_alloc | apply pw_below_drewN | apply below_drew1) | exact HB.out)⟩
  · rw [if_neg c4] at H
    have c4b0 : decide (500 < (a0.size : Int)) = false := decide_eq_false c4
    have c4b1 : decide (500 < a0.size) = false := decide_eq_false (by omega)
    clear c4
    replace H := Option.bind_eq_some_iff.mp H
    obtain ⟨⟨t238, t239, t240⟩, A60, H⟩ := H
    try dsimp only at H
    have A6 := Aside0.mk A60; clear A60
    by_cases c7 : t240 = true
    · subst c7
      rw [if_pos rfl] at H
      replace H := Option.bind_eq_some_iff.mp H
      obtain ⟨⟨t241, t242⟩, A80, H⟩ := H
      try dsimp only at H
      have A8 := Aside0.mk A80; clear A80
      by_cases c9 : t237 = true
      · subst c9
        rw [if_pos rfl] at H
        by_cases c10 : t242 = true
        · subst c10
          rw [if_pos rfl] at H
          by_cases c11 : t241.toList = a0.toList
          · rw [if_pos c11] at H
            have c11b0 : (t241.toList == a0.toList) = true := beq_iff_eq.mpr c11
            have c11b1 : (t241.toList != a0.toList) = false := bne_eq_false_iff_eq.mpr c11
            clear c11
            by_cases c12 : (a0.size : Int) = 80
            · rw [if_pos c12] at H
              have c12b0 : ((a0.size : Int) == 80) = true := beq_iff_eq.mpr c12
              have c12b1 : ((a0.size : Int) != 80) = false := bne_eq_false_iff_eq.mpr c12
              clear c12
              clear hr
              obtain rfl := Option.some.inj H
              go_enter Tryd.func5, Tryd.ntmps5
              go_wp2_with (first | ((with_reducible refine gate_callee (f := 8) rfl ?_); refine goesL_ (some 11) rfl rfl Tryd.func8 (by kernel_rfl) rfl #[] rfl (by (try simp only [List.map_toArray, List.map_cons, List.map_nil]); first | done | rfl | (simp only [List.length_drop, List.length_take]; rfl)) ?_; (with_reducible refine (decklelaw20_small.calls k  true _ ?side1 A3.out).mono ?_); (case side1 => first | exact hT | exact Tabs.below hT (by repeat (first | (with_reducible first | exact HB.out | apply below_alloc | apply pw_below_drewN | apply below_drew1) | exact HB.out)) | ((repeat (first | exact hT | apply Tabs.drewN | apply Tabs.drew)); done)); rintro e w13 ⟨rfl, hb⟩; refine ⟨_, rfl, ?_⟩; have n0_ := Aside0.mk (below_step (by repeat (first | (with_reducible first | exact HB.out | apply below_alloc | apply pw_below_drewN | apply below_drew1) | exact HB.out)) hb); clear HB; have HB := n0_; clear n0_; (try clear hb); (try clear hb2); (try clear hk); (try clear hi)) | ((with_reducible refine gate_callee (f := 12) rfl ?_); refine goesL_ (some 19) rfl rfl Tryd.func12 (by kernel_rfl) rfl #[.string a0, .int .i64 a1] rfl (by (try simp only [List.map_toArray, List.map_cons, List.map_nil]); first | done | rfl | (simp only [List.length_drop, List.length_take]; rfl)) ?_; (with_reducible refine (record_Read.calls k a0 a1 t238 t239 true _ ?side1 A6.out).mono ?_); (case side1 => first | exact hT | exact Tabs.below hT (by repeat (first | (with_reducible first | exact HB.out | apply below_alloc | apply pw_below_drewN | apply below_drew1) | exact HB.out)) | ((repeat (first | exact hT | apply Tabs.drewN | apply Tabs.drew)); done)); rintro e w14 ⟨rfl, hb⟩; refine ⟨_, rfl, ?_⟩; have n0_ := Aside0.mk (below_step (by repeat (first | (with_reducible first | exact HB.out | apply below_alloc | apply pw_below_drewN | apply below_drew1) | exact HB.out)) hb); clear HB; have HB := n0_; clear n0_; (try clear hb); (try clear hb2); (try clear hk); (try clear hi)) | ((with_reducible refine gate_callee (f := 10) rfl ?_); refine goesL_ (some 38) rfl rfl Tryd.func10 (by kernel_rfl) rfl #[.int .u8 t238, .string t239, .int .i64 a1] rfl (by (try simp only [List.map_toArray, List.map_cons, List.map_nil]); first | done | rfl | (simp only [List.length_drop, List.length_take]; rfl)) ?_; (with_reducible refine (record_Line.calls t238 t239 a1 t241 true _ ?side1 A8.out).mono ?_); (case side1 => first | exact hT | exact Tabs.below hT (by repeat (first | (with_reducible first | exact HB.out | apply below_alloc | apply pw_below_drewN | apply below_drew1) | exact HB.out)) | ((repeat (first | exact hT | apply Tabs.drewN | apply Tabs.drew)); done)); rintro e w15 ⟨rfl, hb⟩; refine ⟨_, rfl, ?_⟩; have n0_ := Aside0.mk (below_step (by repeat (first | (with_reducible first | exact HB.out | apply below_alloc | apply pw_below_drewN | apply below_drew1) | exact HB.out)) hb); clear HB; have HB := n0_; clear n0_; (try clear hb); (try clear hb2); (try clear hk); (try clear hi)))
              go_ret
              exact ⟨by first | rfl | (simp [errW_none, errW_some] <;> rfl) | (simp [*, errW_none, errW_some] <;> rfl) | (simp [errW_none, errW_some, bne_nil_, beq_nil_]; done) | (simp [*, errW_none, errW_some, bne_nil_, beq_nil_]; done), by repeat (first | (with_reducible first | exact HB.out | apply below_alloc | apply pw_below_drewN | apply below_drew1) | exact HB.out)⟩
            · rw [if_neg c12] at H
              have c12b0 : ((a0.size : Int) == 80) = false := beq_eq_false_iff_ne.mpr c12
              have c12b1 : ((a0.size : Int) != 80) = true := bne_iff_ne.mpr c12
              exact absurd (Option.some.inj H) (by rw [hr]; decide)
          · rw [if_neg c11] at H
            have c11b0 : (t241.toList == a0.toList) = false := beq_eq_false_iff_ne.mpr c11
            have c11b1 : (t241.toList != a0.toList) = true := bne_iff_ne.mpr c11
            exact absurd (Option.some.inj H) (by rw [hr]; decide)
        · replace c10 := Bool.eq_false_iff.mpr c10
          subst c10
          rw [if_neg (show ¬ (false = true) by decide)] at H
          exact absurd (Option.some.inj H) (by rw [hr]; decide)
      · replace c9 := Bool.eq_false_iff.mpr c9
        subst c9
        rw [if_neg (show ¬ (false = true) by decide)] at H
        exact absurd (Option.some.inj H) (by rw [hr]; decide)
    · replace c7 := Bool.eq_false_iff.mpr c7
      subst c7
      rw [if_neg (show ¬ (false = true) by decide)] at H
      by_cases c16 : t237 = true
      · subst c16
        rw [if_pos rfl] at H
        by_cases c17 : t238 = 0
        · rw [if_pos c17] at H
          have c17b0 : (t238 == 0) = true := beq_iff_eq.mpr c17
          have c17b1 : (t238 != 0) = false := bne_eq_false_iff_eq.mpr c17
          clear c17
          clear hr
          obtain rfl := Option.some.inj H
          go_enter Tryd.func5, Tryd.ntmps5
          go_wp2_with (first | ((with_reducible refine gate_callee (f := 8) rfl ?_); refine goesL_ (some 11) rfl rfl Tryd.func8 (by kernel_rfl) rfl #[] rfl (by (try simp only [List.map_toArray, List.map_cons, List.map_nil]); first | done | rfl | (simp only [List.length_drop, List.length_take]; rfl)) ?_; (with_reducible refine (decklelaw20_small.calls k  true _ ?side1 A3.out).mono ?_); (case side1 => first | exact hT | exact Tabs.below hT (by repeat (first | (with_reducible first | exact HB.out | apply below_alloc | apply pw_below_drewN | apply below_drew1) | exact HB.out)) | ((repeat (first | exact hT | apply Tabs.drewN | apply Tabs.drew)); done)); rintro e w18 ⟨rfl, hb⟩; refine ⟨_, rfl, ?_⟩; have n0_ := Aside0.mk (below_step (by repeat (first | (with_reducible first | exact HB.out | apply below_alloc | apply pw_below_drewN | apply below_drew1) | exact HB.out)) hb); clear HB; have HB := n0_; clear n0_; (try clear hb); (try clear hb2); (try clear hk); (try clear hi)) | ((with_reducible refine gate_callee (f := 12) rfl ?_); refine goesL_ (some 19) rfl rfl Tryd.func12 (by kernel_rfl) rfl #[.string a0, .int .i64 a1] rfl (by (try simp only [List.map_toArray, List.map_cons, List.map_nil]); first | done | rfl | (simp only [List.length_drop, List.length_take]; rfl)) ?_; (with_reducible refine (record_Read.calls k a0 a1 t238 t239 false _ ?side1 A6.out).mono ?_); (case side1 => first | exact hT | exact Tabs.below hT (by repeat (first | (with_reducible first | exact HB.out | apply below_alloc | apply pw_below_drewN | apply below_drew1) | exact HB.out)) | ((repeat (first | exact hT | apply Tabs.drewN | apply Tabs.drew)); done)); rintro e w19 ⟨rfl, hb⟩; refine ⟨_, rfl, ?_⟩; have n0_ := Aside0.mk (below_step (by repeat (first | (with_reducible first | exact HB.out | apply below_alloc | apply pw_below_drewN | apply below_drew1) | exact HB.out)) hb); clear HB; have HB := n0_; clear n0_; (try clear hb); (try clear hb2); (try clear hk); (try clear hi)))
          go_ret
          exact ⟨by first | rfl | (simp [errW_none, errW_some] <;> rfl) | (simp [*, errW_none, errW_some] <;> rfl) | (simp [errW_none, errW_some, bne_nil_, beq_nil_]; done) | (simp [*, errW_none, errW_some, bne_nil_, beq_nil_]; done), by repeat (first | (with_reducible first | exact HB.out | apply below_alloc | apply pw_below_drewN | apply below_drew1) | exact HB.out)⟩
        · rw [if_neg c17] at H
          have c17b0 : (t238 == 0) = false := beq_eq_false_iff_ne.mpr c17
          have c17b1 : (t238 != 0) = true := bne_iff_ne.mpr c17
          exact absurd (Option.some.inj H) (by rw [hr]; decide)
      · replace c16 := Bool.eq_false_iff.mpr c16
        subst c16
        rw [if_neg (show ¬ (false = true) by decide)] at H
        exact absurd (Option.some.inj H) (by rw [hr]; decide)

end Go.Proofs.YtempfafkfkcelaaDoor.All
