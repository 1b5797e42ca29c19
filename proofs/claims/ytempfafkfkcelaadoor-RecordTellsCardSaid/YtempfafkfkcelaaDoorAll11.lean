-- Written for this claim by wip/tools/gprint.py out of the translation (it drives the kit's print). Lean checks it.
import Derived.Test.YtempfafkfkcelaaDoorAll0
import Derived.Test.YtempfafkfkcelaaDoorAll2
import Derived.Test.YtempfafkfkcelaaDoorAll3
import Derived.Test.YtempfafkfkcelaaDoorAll4
import Derived.Test.YtempfafkfkcelaaDoorAll5
import Derived.Test.YtempfafkfkcelaaDoorAll6
import Derived.Test.YtempfafkfkcelaaDoorAll7
import Derived.Test.YtempfafkfkcelaaDoorAll8
import Derived.Test.YtempfafkfkcelaaDoorAll9
import Derived.Test.YtempfafkfkcelaaDoorAll10
namespace Go.Proofs.YtempfafkfkcelaaDoor.All
open Go.RowKit Go.Proofs.YtempfafkfkcelaaDoorW.PrintWords Go.Proofs.YtempfafkfkcelaaDoorW.PrintLast Go.Proofs.YtempfafkfkcelaaDoorW.PrintMore Go.Proofs.YtempfafkfkcelaaDoor.G
attribute [local go_sem] max2_int min2_int max_two min_two max_three min_three max_four min_four str_leq str_gtr str_geq   -- for this text's walks alone
set_option linter.unusedVariables false
set_option linter.unusedSimpArgs false

/-! ### decklelaw20_RecordTells_t: function 3 -/
def decklelaw20_RecordTells_t.f (k : Nat) (a0 : Int) (a1 : ByteArray) (a2 : Int) (l3 : List ByteArray) : Option (Bool) := (decklelaw20_small.f k).bind fun t193 => ((decklelaw16_Few.f k l3).bind fun t194 => (if t194 = true then (if (a1.size : Int) > 500 then (some t193) else ((record_Line.f a0 a1 a2).bind fun bt195 => ((deckleref20_Line.f k a0 a1 a2).bind fun bt197 => ((record_Read.f k a1 a2).bind fun bt199 => ((deckleref20_Read.f k a1 a2).bind fun bt202 => ((record_Put.f k a1 a2).bind fun bt205 => ((deckleref20_Put.f k a1 a2).bind fun bt209 => ((record_Get.f l3).bind fun bt213 => ((deckleref20_Get.f k l3).bind fun bt215 => (if t193 = true then (if bt195.1.toList = bt197.1.toList then (if (bt195.2 == bt197.2) = true then (if bt199.1 = bt202.1 then (if bt199.2.1.toList = bt202.2.1.toList then (if (bt199.2.2 == bt202.2.2) = true then ((deckleref16_Same.f k bt205.1 bt209.1).bind fun t217 => (if t217 = true then (if (bt205.2 == bt209.2) = true then (if bt213.1.toList = bt215.1.toList then (some (bt213.2 == bt215.2)) else (some false)) else (some false)) else (some false))) else (some false)) else (some false)) else (some false)) else (some false)) else (some false)) else (some false))))))))))) else (some t193)))
theorem decklelaw20_RecordTells_t.mono : ∀ a0 a1 a2 a3 k, LeO (decklelaw20_RecordTells_t.f k a0 a1 a2 a3) (decklelaw20_RecordTells_t.f (k + 1) a0 a1 a2 a3) := by
  intro a0 a1 a2 a3 k
  unfold decklelaw20_RecordTells_t.f
  repeat' first
      | (with_reducible exact decklelaw16_Few.mono _ _)
      | (with_reducible exact decklelaw20_small.mono _)
      | (with_reducible exact deckleref16_Same.mono _ _ _)
      | (with_reducible exact deckleref20_Get.mono _ _)
      | (with_reducible exact deckleref20_Line.mono _ _ _ _)
      | (with_reducible exact deckleref20_Put.mono _ _ _)
      | (with_reducible exact deckleref20_Read.mono _ _ _)
      | (with_reducible exact record_Put.mono _ _ _)
      | (with_reducible exact record_Read.mono _ _ _)
      | (with_reducible exact LeO.refl _)
      | (with_reducible exact LeO.none _)
      | (with_reducible refine LeO.ite ?_ ?_)
      | (with_reducible refine LeO.bind ?_ (fun _ => ?_))
      | exact decklelaw16_Few.mono _ _
      | exact decklelaw20_small.mono _
      | exact deckleref16_Same.mono _ _ _
      | exact deckleref20_Get.mono _ _
      | exact deckleref20_Line.mono _ _ _ _
      | exact deckleref20_Put.mono _ _ _
      | exact deckleref20_Read.mono _ _ _
      | exact record_Put.mono _ _ _
      | exact record_Read.mono _ _ _
      | exact LeO.none _
      | refine LeO.ite ?_ ?_
      | refine LeO.bind ?_ (fun _ => ?_)
set_option maxHeartbeats 8000000 in
set_option maxRecDepth 100000 in
theorem decklelaw20_RecordTells_t.calls (k : Nat) (a0 : Int) (a1 : ByteArray) (a2 : Int) (A3 : Option Addr) (c3 : Nat) (l3 : List ByteArray) (r : Bool) (w : World) (hT : Tabs w) (hr : r = true) (hr3 : Kd.C Kd.string w A3 l3.length l3) (hc3 : l3.length ≤ c3) (h : decklelaw20_RecordTells_t.f k a0 a1 a2 l3 = some r) :
    Calls Tryd.prog 3 #[.int .u8 a0, .string a1, .int .i64 a2, .slice A3 l3.length c3] w fun e w' => e = .returned (.bool r) ∧ Below w.heap.size w w' := by
  have HR3 := Aside0.mk hr3
  have HC3 := Aside0.mk hc3
  clear hr3 hc3
  have HB := Aside0.mk (Below.refl w.heap.size w)
  have H : ((decklelaw20_small.f k).bind fun t193 => ((decklelaw16_Few.f k l3).bind fun t194 => (if t194 = true then (if (a1.size : Int) > 500 then (some t193) else ((record_Line.f a0 a1 a2).bind fun bt195 => ((deckleref20_Line.f k a0 a1 a2).bind fun bt197 => ((record_Read.f k a1 a2).bind fun bt199 => ((deckleref20_Read.f k a1 a2).bind fun bt202 => ((record_Put.f k a1 a2).bind fun bt205 => ((deckleref20_Put.f k a1 a2).bind fun bt209 => ((record_Get.f l3).bind fun bt213 => ((deckleref20_Get.f k l3).bind fun bt215 => (if t193 = true then (if bt195.1.toList = bt197.1.toList then (if (bt195.2 == bt197.2) = true then (if bt199.1 = bt202.1 then (if bt199.2.1.toList = bt202.2.1.toList then (if (bt199.2.2 == bt202.2.2) = true then ((deckleref16_Same.f k bt205.1 bt209.1).bind fun t217 => (if t217 = true then (if (bt205.2 == bt209.2) = true then (if bt213.1.toList = bt215.1.toList then (some (bt213.2 == bt215.2)) else (some false)) else (some false)) else (some false))) else (some false)) else (some false)) else (some false)) else (some false)) else (some false)) else (some false))))))))))) else (some t193)))) = some r := h
  clear h
  replace H := Option.bind_eq_some_iff.mp H
  obtain ⟨t193, A50, H⟩ := H
  have A5 := Aside0.mk A50; clear A50
  replace H := Option.bind_eq_some_iff.mp H
  obtain ⟨t194, A60, H⟩ := H
  have A6 := Aside0.mk A60; clear A60
  by_cases c7 : t194 = true
  · subst c7
    rw [if_pos rfl] at H
    by_cases c8 : (a1.size : Int) > 500
    · rw [if_pos c8] at H
      have c8b0 : decide (500 < (a1.size : Int)) = true := decide_eq_true c8
      have c8b1 : decide (500 < a1.size) = true := decide_eq_true (by omega)
      clear c8
      clear hr
      obtain rfl := Option.some.inj H
      go_enter Tryd.func3, Tryd.ntmps3
      go_wp2_with (first | ((with_reducible refine gate_callee (f := 8) rfl ?_); refine goesL_ (some 29) rfl rfl Tryd.func8 (by kernel_rfl) rfl #[] rfl (by (try simp only [List.map_toArray, List.map_cons, List.map_nil]); first | done | rfl | (simp only [List.length_drop, List.length_take]; rfl)) ?_; (with_reducible refine (decklelaw20_small.calls k  t193 _ ?side1 A5.out).mono ?_); (case side1 => first | exact hT | exact Tabs.below hT (by repeat (first | (with_reducible first | exact HB.out | apply below_alloc | apply pw_below_drewN | apply below_drew1) | exact HB.out)) | ((repeat (first | exact hT | apply Tabs.drewN | apply Tabs.drew)); done)); rintro e w9 ⟨rfl, hb⟩; refine ⟨_, rfl, ?_⟩; have n0_ := Aside0.mk (below_step (by repeat (first | (with_reducible first | exact HB.out | apply below_alloc | apply pw_below_drewN | apply below_drew1) | exact HB.out)) hb); clear HB; have HB := n0_; clear n0_; (try clear hb); (try clear hb2); (try clear hk); (try clear hi)) | ((with_reducible refine gate_callee (f := 9) rfl ?_); refine goesL_ (some 31) rfl rfl Tryd.func9 (by kernel_rfl) rfl #[.slice A3 l3.length c3] rfl (by (try simp only [List.map_toArray, List.map_cons, List.map_nil]); first | done | rfl | (simp only [List.length_drop, List.length_take]; rfl)) ?_; (with_reducible refine (decklelaw16_Few.calls k _ _ l3 true _ ?side1 ?side2 ?side3 A6.out).mono ?_); (case side1 => first | exact hT | exact Tabs.below hT (by repeat (first | (with_reducible first | exact HB.out | apply below_alloc | apply pw_below_drewN | apply below_drew1) | exact HB.out)) | ((repeat (first | exact hT | apply Tabs.drewN | apply Tabs.drew)); done)); (case side2 => repeat (first | exact (Kd.C_below HR3.out HB.out) | (with_reducible refine Kd.C_alloc ?_ _) | (with_reducible refine Kd.C_drewN ?_ _) | (with_reducible refine Kd.C_drew ?_))); (case side3 => exact HC3.out); rintro e w' ⟨rfl, ⟨nd, rfl⟩⟩; refine ⟨_, rfl, ?_⟩))
      go_ret
      exact ⟨by first | rfl | (simp [errW_none, errW_some] <;> rfl) | (simp [*, errW_none, errW_some] <;> rfl) | (simp [errW_none, errW_some, bne_nil_, beq_nil_]; done) | (simp [*, errW_none, errW_some, bne_nil_, beq_nil_]; done), by repeat (first | (with_reducible first | exact HB.out | apply below_alloc | apply pw_below_drewN | apply below_drew1) | exact HB.out)⟩
    · rw [if_neg c8] at H
      have c8b0 : decide (500 < (a1.size : Int)) = false := decide_eq_false c8
      have c8b1 : decide (500 < a1.size) = false := decide_eq_false (by omega)
      clear c8
      replace H := Option.bind_eq_some_iff.mp H
      obtain ⟨⟨t195, t196⟩, A100, H⟩ := H
      try dsimp only at H
      have A10 := Aside0.mk A100; clear A100
      replace H := Option.bind_eq_some_iff.mp H
      obtain ⟨⟨t197, t198⟩, A110, H⟩ := H
      try dsimp only at H
      have A11 := Aside0.mk A110; clear A110
      replace H := Option.bind_eq_some_iff.mp H
      obtain ⟨⟨t199, t200, t201⟩, A120, H⟩ := H
      try dsimp only at H
      have A12 := Aside0.mk A120; clear A120
      replace H := Option.bind_eq_some_iff.mp H
      obtain ⟨⟨t202, t203, t204⟩, A130, H⟩ := H
      try dsimp only at H
      have A13 := Aside0.mk A130; clear A130
      replace H := Option.bind_eq_some_iff.mp H
      obtain ⟨⟨t205, t206⟩, A140, H⟩ := H
      try dsimp only at H
      have A14 := Aside0.mk A140; clear A140
      replace H := Option.bind_eq_some_iff.mp H
      obtain ⟨⟨t209, t210⟩, A150, H⟩ := H
      try dsimp only at H
      have A15 := Aside0.mk A150; clear A150
      replace H := Option.bind_eq_some_iff.mp H
      obtain ⟨⟨t213, t214⟩, A160, H⟩ := H
      try dsimp only at H
      have A16 := Aside0.mk A160; clear A160
      replace H := Option.bind_eq_some_iff.mp H
      obtain ⟨⟨t215, t216⟩, A170, H⟩ := H
      try dsimp only at H
      have A17 := Aside0.mk A170; clear A170
      by_cases c18 : t193 = true
      · subst c18
        rw [if_pos rfl] at H
        by_cases c19 : t195.toList = t197.toList
        · rw [if_pos c19] at H
          have c19b0 : (t195.toList == t197.toList) = true := beq_iff_eq.mpr c19
          have c19b1 : (t195.toList != t197.toList) = false := bne_eq_false_iff_eq.mpr c19
          clear c19
          by_cases c20 : (t196 == t198) = true
          · rw [if_pos c20] at H
            have c20b0 : (t196 == t198) = true := c20
            (try (have c20b1 : decide (t196 = t198) = true := by simpa using c20))
            (try (have c20b2 : (t196 == t198) = true := by simpa using c20))
            clear c20
            by_cases c21 : t199 = t202
            · rw [if_pos c21] at H
              have c21b0 : (t199 == t202) = true := beq_iff_eq.mpr c21
              have c21b1 : (t199 != t202) = false := bne_eq_false_iff_eq.mpr c21
              clear c21
              by_cases c22 : t200.toList = t203.toList
              · rw [if_pos c22] at H
                have c22b0 : (t200.toList == t203.toList) = true := beq_iff_eq.mpr c22
                have c22b1 : (t200.toList != t203.toList) = false := bne_eq_false_iff_eq.mpr c22
                clear c22
                by_cases c23 : (t201 == t204) = true
                · rw [if_pos c23] at H
                  have c23b0 : (t201 == t204) = true := c23
                  (try (have c23b1 : decide (t201 = t204) = true := by simpa using c23))
                  (try (have c23b2 : (t201 == t204) = true := by simpa using c23))
                  clear c23
                  replace H := Option.bind_eq_some_iff.mp H
                  obtain ⟨t217, A240, H⟩ := H
                  have A24 := Aside0.mk A240; clear A240
                  by_cases c25 : t217 = true
                  · subst c25
                    rw [if_pos rfl] at H
                    by_cases c26 : (t206 == t210) = true
                    · rw [if_pos c26] at H
                      have c26b0 : (t206 == t210) = true := c26
                      (try (have c26b1 : decide (t206 = t210) = true := by simpa using c26))
                      (try (have c26b2 : (t206 == t210) = true := by simpa using c26))
                      clear c26
                      by_cases c27 : t213.toList = t215.toList
                      · rw [if_pos c27] at H
                        have c27b0 : (t213.toList == t215.toList) = true := beq_iff_eq.mpr c27
                        have c27b1 : (t213.toList != t215.toList) = false := bne_eq_false_iff_eq.mpr c27
                        clear c27
                        clear hr
                        obtain rfl := Option.some.inj H
                        go_enter Tryd.func3, Tryd.ntmps3
                        go_wp2_with (first | ((with_reducible refine gate_callee (f := 8) rfl ?_); refine goesL_ (some 29) rfl rfl Tryd.func8 (by kernel_rfl) rfl #[] rfl (by (try simp only [List.map_toArray, List.map_cons, List.map_nil]); first | done | rfl | (simp only [List.length_drop, List.length_take]; rfl)) ?_; (with_reducible refine (decklelaw20_small.calls k  true _ ?side1 A5.out).mono ?_); (case side1 => first | exact hT | exact Tabs.below hT (by repeat (first | (with_reducible first | exact HB.out | apply below_alloc | apply pw_below_drewN | apply below_drew1) | exact HB.out)) | ((repeat (first | exact hT | apply Tabs.drewN | apply Tabs.drew)); done)); rintro e w28 ⟨rfl, hb⟩; refine ⟨_, rfl, ?_⟩; have n0_ := Aside0.mk (below_step (by repeat (first | (with_reducible first | exact HB.out | apply below_alloc | apply pw_below_drewN | apply below_drew1) | exact HB.out)) hb); clear HB; have HB := n0_; clear n0_; (try clear hb); (try clear hb2); (try clear hk); (try clear hi)) | ((with_reducible refine gate_callee (f := 9) rfl ?_); refine goesL_ (some 31) rfl rfl Tryd.func9 (by kernel_rfl) rfl #[.slice A3 l3.length c3] rfl (by (try simp only [List.map_toArray, List.map_cons, List.map_nil]); first | done | rfl | (simp only [List.length_drop, List.length_take]; rfl)) ?_; (with_reducible refine (decklelaw16_Few.calls k _ _ l3 true _ ?side1 ?side2 ?side3 A6.out).mono ?_); (case side1 => first | exact hT | exact Tabs.below hT (by repeat (first | (with_reducible first | exact HB.out | apply below_alloc | apply pw_below_drewN | apply below_drew1) | exact HB.out)) | ((repeat (first | exact hT | apply Tabs.drewN | apply Tabs.drew)); done)); (case side2 => repeat (first | exact (Kd.C_below HR3.out HB.out) | (with_reducible refine Kd.C_alloc ?_ _) | (with_reducible refine Kd.C_drewN ?_ _) | (with_reducible refine Kd.C_drew ?_))); (case side3 => exact HC3.out); rintro e w' ⟨rfl, ⟨nd, rfl⟩⟩; refine ⟨_, rfl, ?_⟩) | ((with_reducible refine gate_callee (f := 10) rfl ?_); refine goesL_ (some 44) rfl rfl Tryd.func10 (by kernel_rfl) rfl #[.int .u8 a0, .string a1, .int .i64 a2] rfl (by (try simp only [List.map_toArray, List.map_cons, List.map_nil]); first | done | rfl | (simp only [List.length_drop, List.length_take]; rfl)) ?_; (with_reducible refine (record_Line.calls a0 a1 a2 t195 t196 _ ?side1 A10.out).mono ?_); (case side1 => first | exact hT | exact Tabs.below hT (by repeat (first | (with_reducible first | exact HB.out | apply below_alloc | apply pw_below_drewN | apply below_drew1) | exact HB.out)) | ((repeat (first | exact hT | apply Tabs.drewN | apply Tabs.drew)); done)); rintro e w29 ⟨rfl, hb⟩; refine ⟨_, rfl, ?_⟩; have n0_ := Aside0.mk (below_step (by repeat (first | (with_reducible first | exact HB.out | apply below_alloc | apply pw_below_drewN | apply below_drew1) | exact HB.out)) hb); clear HB; have HB := n0_; clear n0_; (try clear hb); (try clear hb2); (try clear hk); (try clear hi)) | ((with_reducible refine gate_callee (f := 11) rfl ?_); refine goesL_ (some 51) rfl rfl Tryd.func11 (by kernel_rfl) rfl #[.int .u8 a0, .string a1, .int .i64 a2] rfl (by (try simp only [List.map_toArray, List.map_cons, List.map_nil]); first | done | rfl | (simp only [List.length_drop, List.length_take]; rfl)) ?_; (with_reducible refine (deckleref20_Line.calls k a0 a1 a2 t197 t198 _ ?side1 A11.out).mono ?_); (case side1 => first | exact hT | exact Tabs.below hT (by repeat (first | (with_reducible first | exact HB.out | apply below_alloc | apply pw_below_drewN | apply below_drew1) | exact HB.out)) | ((repeat (first | exact hT | apply Tabs.drewN | apply Tabs.drew)); done)); rintro e w30 ⟨rfl, hb⟩; refine ⟨_, rfl, ?_⟩; have n0_ := Aside0.mk (below_step (by repeat (first | (with_reducible first | exact HB.out | apply below_alloc | apply pw_below_drewN | apply below_drew1) | exact HB.out)) hb); clear HB; have HB := n0_; clear n0_; (try clear hb); (try clear hb2); (try clear hk); (try clear hi)) | ((with_reducible refine gate_callee (f := 12) rfl ?_); refine goesL_ (some 57) rfl rfl Tryd.func12 (by kernel_rfl) rfl #[.string a1, .int .i64 a2] rfl (by (try simp only [List.map_toArray, List.map_cons, List.map_nil]); first | done | rfl | (simp only [List.length_drop, List.length_take]; rfl)) ?_; (with_reducible refine (record_Read.calls k a1 a2 t199 t200 t201 _ ?side1 A12.out).mono ?_); (case side1 => first | exact hT | exact Tabs.below hT (by repeat (first | (with_reducible first | exact HB.out | apply below_alloc | apply pw_below_drewN | apply below_drew1) | exact HB.out)) | ((repeat (first | exact hT | apply Tabs.drewN | apply Tabs.drew)); done)); rintro e w31 ⟨rfl, hb⟩; refine ⟨_, rfl, ?_⟩; have n0_ := Aside0.mk (below_step (by repeat (first | (with_reducible first | exact HB.out | apply below_alloc | apply pw_below_drewN | apply below_drew1) | exact HB.out)) hb); clear HB; have HB := n0_; clear n0_; (try clear hb); (try clear hb2); (try clear hk); (try clear hi)) | ((with_reducible refine gate_callee (f := 13) rfl ?_); refine goesL_ (some 64) rfl rfl Tryd.func13 (by kernel_rfl) rfl #[.string a1, .int .i64 a2] rfl (by (try simp only [List.map_toArray, List.map_cons, List.map_nil]); first | done | rfl | (simp only [List.length_drop, List.length_take]; rfl)) ?_; (with_reducible refine (deckleref20_Read.calls k a1 a2 t202 t203 t204 _ ?side1 A13.out).mono ?_); (case side1 => first | exact hT | exact Tabs.below hT (by repeat (first | (with_reducible first | exact HB.out | apply below_alloc | apply pw_below_drewN | apply below_drew1) | exact HB.out)) | ((repeat (first | exact hT | apply Tabs.drewN | apply Tabs.drew)); done)); rintro e w32 ⟨rfl, hb⟩; refine ⟨_, rfl, ?_⟩; have n0_ := Aside0.mk (below_step (by repeat (first | (with_reducible first | exact HB.out | apply below_alloc | apply pw_below_drewN | apply below_drew1) | exact HB.out)) hb); clear HB; have HB := n0_; clear n0_; (try clear hb); (try clear hb2); (try clear hk); (try clear hi)) | ((with_reducible refine gate_callee (f := 14) rfl ?_); refine goesL_ (some 71) rfl rfl Tryd.func14 (by kernel_rfl) rfl #[.string a1, .int .i64 a2] rfl (by (try simp only [List.map_toArray, List.map_cons, List.map_nil]); first | done | rfl | (simp only [List.length_drop, List.length_take]; rfl)) ?_; (with_reducible refine (record_Put.calls k a1 a2 t205 t206 _ ?side1 A14.out).mono ?_); (case side1 => first | exact hT | exact Tabs.below hT (by repeat (first | (with_reducible first | exact HB.out | apply below_alloc | apply pw_below_drewN | apply below_drew1) | exact HB.out)) | ((repeat (first | exact hT | apply Tabs.drewN | apply Tabs.drew)); done)); rintro e w33 ⟨v207, rfl, ho0, hb⟩; refine ⟨_, rfl, ?_⟩; have n0_ := Aside0.mk (Kd.R_lower ho0 (below_size (by repeat (first | (with_reducible first | exact HB.out | apply below_alloc | apply pw_below_drewN | apply below_drew1) | exact HB.out)))); have n1_ := Aside0.mk (below_step (by repeat (first | (with_reducible first | exact HB.out | apply below_alloc | apply pw_below_drewN | apply below_drew1) | exact HB.out)) hb); clear HB; have HO208 := n0_; have HB := n1_; clear n0_ n1_; (try clear hb); (try clear hb2); (try clear hk); (try clear hi); (try clear ho0)) | ((with_reducible refine gate_callee (f := 15) rfl ?_); refine goesL_ (some 77) rfl rfl Tryd.func15 (by kernel_rfl) rfl #[.string a1, .int .i64 a2] rfl (by (try simp only [List.map_toArray, List.map_cons, List.map_nil]); first | done | rfl | (simp only [List.length_drop, List.length_take]; rfl)) ?_; (with_reducible refine (deckleref20_Put.calls k a1 a2 t209 t210 _ ?side1 A15.out).mono ?_); (case side1 => first | exact hT | exact Tabs.below hT (by repeat (first | (with_reducible first | exact HB.out | apply below_alloc | apply pw_below_drewN | apply below_drew1) | exact HB.out)) | ((repeat (first | exact hT | apply Tabs.drewN | apply Tabs.drew)); done)); rintro e w34 ⟨v211, rfl, ho0, hb⟩; refine ⟨_, rfl, ?_⟩; have n0_ := Aside0.mk (Kd.R_elder' (by (with_reducible repeat (first | apply Kd.R_alloc | apply Kd.R_drewN | apply Kd.R_drew)); exact HO208.out) (Kd.R_base ho0) hb); have n1_ := Aside0.mk (Kd.R_lower (Kd.R_new' ho0 (Kd.R_lt (by (with_reducible repeat (first | apply Kd.R_alloc | apply Kd.R_drewN | apply Kd.R_drew)); exact HO208.out))) (below_size (by repeat (first | (with_reducible first | exact HB.out | apply below_alloc | apply pw_below_drewN | apply below_drew1) | exact HB.out)))); have n2_ := Aside0.mk (below_step (by repeat (first | (with_reducible first | exact HB.out | apply below_alloc | apply pw_below_drewN | apply below_drew1) | exact HB.out)) hb); clear HO208; clear HB; have HO208 := n0_; have HO212 := n1_; have HB := n2_; clear n0_ n1_ n2_; (try clear hb); (try clear hb2); (try clear hk); (try clear hi); (try clear ho0)) | ((with_reducible refine gate_callee (f := 16) rfl ?_); refine goesL_ (some 82) rfl rfl Tryd.func16 (by kernel_rfl) rfl #[.slice A3 l3.length c3] rfl (by (try simp only [List.map_toArray, List.map_cons, List.map_nil]); first | done | rfl | (simp only [List.length_drop, List.length_take]; rfl)) ?_; (with_reducible refine (record_Get.calls _ _ l3 t213 t214 _ ?side1 ?side2 ?side3 A16.out).mono ?_); (case side1 => first | exact hT | exact Tabs.below hT (by repeat (first | (with_reducible first | exact HB.out | apply below_alloc | apply pw_below_drewN | apply below_drew1) | exact HB.out)) | ((repeat (first | exact hT | apply Tabs.drewN | apply Tabs.drew)); done)); (case side2 => repeat (first | exact (Kd.C_below HR3.out HB.out) | (with_reducible refine Kd.C_alloc ?_ _) | (with_reducible refine Kd.C_drewN ?_ _) | (with_reducible refine Kd.C_drew ?_))); (case side3 => exact HC3.out); rintro e w35 ⟨rfl, hb⟩; refine ⟨_, rfl, ?_⟩; have n0_ := Aside0.mk (Kd.R_below (by (with_reducible repeat (first | apply Kd.R_alloc | apply Kd.R_drewN | apply Kd.R_drew)); exact HO208.out) hb); have n1_ := Aside0.mk (Kd.R_below (by (with_reducible repeat (first | apply Kd.R_alloc | apply Kd.R_drewN | apply Kd.R_drew)); exact HO212.out) hb); have n2_ := Aside0.mk (below_step (by repeat (first | (with_reducible first | exact HB.out | apply below_alloc | apply pw_below_drewN | apply below_drew1) | exact HB.out)) hb); clear HO208; clear HO212; clear HB; have HO208 := n0_; have HO212 := n1_; have HB := n2_; clear n0_ n1_ n2_; (try clear hb); (try clear hb2); (try clear hk); (try clear hi)) | ((with_reducible refine gate_callee (f := 17) rfl ?_); refine goesL_ (some 87) rfl rfl Tryd.func17 (by kernel_rfl) rfl #[.slice A3 l3.length c3] rfl (by (try simp only [List.map_toArray, List.map_cons, List.map_nil]); first | done | rfl | (simp only [List.length_drop, List.length_take]; rfl)) ?_; (with_reducible refine (deckleref20_Get.calls k _ _ l3 t215 t216 _ ?side1 ?side2 ?side3 A17.out).mono ?_); (case side1 => first | exact hT | exact Tabs.below hT (by repeat (first | (with_reducible first | exact HB.out | apply below_alloc | apply pw_below_drewN | apply below_drew1) | exact HB.out)) | ((repeat (first | exact hT | apply Tabs.drewN | apply Tabs.drew)); done)); (case side2 => repeat (first | exact (Kd.C_below HR3.out HB.out) | (with_reducible refine Kd.C_alloc ?_ _) | (with_reducible refine Kd.C_drewN ?_ _) | (with_reducible refine Kd.C_drew ?_))); (case side3 => exact HC3.out); rintro e w' ⟨rfl, ⟨nd, rfl⟩⟩; refine ⟨_, rfl, ?_⟩; obtain ⟨Ao36, co36, eo36⟩ := Kd.R_slice HO208.out; subst eo36; obtain ⟨Ao37, co37, eo37⟩ := Kd.R_slice HO212.out; subst eo37) | (go_at_call 18; (with_reducible refine (deckleref16_Same.calls k _ _ t205 _ _ t209 true _ ?side1 ?side2 ?side3 ?side4 ?side5 A24.out).mono ?_); (case side1 => first | exact hT | exact Tabs.below hT (by repeat (first | (with_reducible first | exact HB.out | apply below_alloc | apply pw_below_drewN | apply below_drew1) | exact HB.out)) | ((repeat (first | exact hT | apply Tabs.drewN | apply Tabs.drew)); done)); (case side2 => repeat (first | exact (Kd.R_reads' HO208.out).2.2 | (with_reducible refine Kd.C_alloc ?_ _) | (with_reducible refine Kd.C_drewN ?_ _) | (with_reducible refine Kd.C_drew ?_))); (case side3 => exact (Kd.R_reads' HO208.out).2.1); (case side4 => repeat (first | exact (Kd.R_reads' HO212.out).2.2 | (with_reducible refine Kd.C_alloc ?_ _) | (with_reducible refine Kd.C_drewN ?_ _) | (with_reducible refine Kd.C_drew ?_))); (case side5 => exact (Kd.R_reads' HO212.out).2.1); rintro e w' ⟨rfl, ⟨nd, rfl⟩⟩))
                        go_ret
                        exact ⟨by first | rfl | (simp [errW_none, errW_some] <;> rfl) | (simp [*, errW_none, errW_some] <;> rfl) | (simp [errW_none, errW_some, bne_nil_, beq_nil_]; done) | (simp [*, errW_none, errW_some, bne_nil_, beq_nil_]; done), by repeat (first | (with_reducible first | exact HB.out | apply below_alloc | apply pw_below_drewN | apply below_drew1) | exact HB.out)⟩
                      · rw [if_neg c27] at H
                        have c27b0 : (t213.toList == t215.toList) = false := beq_eq_false_iff_ne.mpr c27
                        have c27b1 : (t213.toList != t215.toList) = true := bne_iff_ne.mpr c27
                        exact absurd (Option.some.inj H) (by rw [hr]; decide)
                    · rw [if_neg c26] at H
                      have c26b0 : (t206 == t210) = false := by simpa using c26
                      (try (have c26b1 : decide (t206 = t210) = false := by simpa using c26))
                      (try (have c26b2 : (t206 == t210) = false := by simpa using c26))
                      (try (have c26b3 : ¬ (t206 = t210) := by simpa using c26))
                      clear c26
                      exact absurd (Option.some.inj H) (by rw [hr]; decide)
                  · replace c25 := Bool.eq_false_iff.mpr c25
                    subst c25
                    rw [if_neg (show ¬ (false = true) by decide)] at H
                    exact absurd (Option.some.inj H) (by rw [hr]; decide)
                · rw [if_neg c23] at H
                  have c23b0 : (t201 == t204) = false := by simpa using c23
                  (try (have c23b1 : decide (t201 = t204) = false := by simpa using c23))
                  (try (have c23b2 : (t201 == t204) = false := by simpa using c23))
                  (try (have c23b3 : ¬ (t201 = t204) := by simpa using c23))
                  clear c23
                  exact absurd (Option.some.inj H) (by rw [hr]; decide)
              · rw [if_neg c22] at H
                have c22b0 : (t200.toList == t203.toList) = false := beq_eq_false_iff_ne.mpr c22
                have c22b1 : (t200.toList != t203.toList) = true := bne_iff_ne.mpr c22
                exact absurd (Option.some.inj H) (by rw [hr]; decide)
            · rw [if_neg c21] at H
              have c21b0 : (t199 == t202) = false := beq_eq_false_iff_ne.mpr c21
              have c21b1 : (t199 != t202) = true := bne_iff_ne.mpr c21
              exact absurd (Option.some.inj H) (by rw [hr]; decide)
          · rw [if_neg c20] at H
            have c20b0 : (t196 == t198) = false := by simpa using c20
            (try (have c20b1 : decide (t196 = t198) = false := by simpa using c20))
            (try (have c20b2 : (t196 == t198) = false := by simpa using c20))
            (try (have c20b3 : ¬ (t196 = t198) := by simpa using c20))
            clear c20
            exact absurd (Option.some.inj H) (by rw [hr]; decide)
        · rw [if_neg c19] at H
          have c19b0 : (t195.toList == t197.toList) = false := beq_eq_false_iff_ne.mpr c19
          have c19b1 : (t195.toList != t197.toList) = true := bne_iff_ne.mpr c19
          exact absurd (Option.some.inj H) (by rw [hr]; decide)
      · replace c18 := Bool.eq_false_iff.mpr c18
        subst c18
        rw [if_neg (show ¬ (false = true) by decide)] at H
        exact absurd (Option.some.inj H) (by rw [hr]; decide)
  · replace c7 := Bool.eq_false_iff.mpr c7
    subst c7
    rw [if_neg (show ¬ (false = true) by decide)] at H
    clear hr
    obtain rfl := Option.some.inj H
    go_enter Tryd.func3, Tryd.ntmps3
    go_wp2_with (first | ((with_reducible refine gate_callee (f := 8) rfl ?_); refine goesL_ (some 29) rfl rfl Tryd.func8 (by kernel_rfl) rfl #[] rfl (by (try simp only [List.map_toArray, List.map_cons, List.map_nil]); first | done | rfl | (simp only [List.length_drop, List.length_take]; rfl)) ?_; (with_reducible refine (decklelaw20_small.calls k  t193 _ ?side1 A5.out).mono ?_); (case side1 => first | exact hT | exact Tabs.below hT (by repeat (first | (with_reducible first | exact HB.out | apply below_alloc | apply pw_below_drewN | apply below_drew1) | exact HB.out)) | ((repeat (first | exact hT | apply Tabs.drewN | apply Tabs.drew)); done)); rintro e w38 ⟨rfl, hb⟩; refine ⟨_, rfl, ?_⟩; have n0_ := Aside0.mk (below_step (by repeat (first | (with_reducible first | exact HB.out | apply below_alloc | apply pw_below_drewN | apply below_drew1) | exact HB.out)) hb); clear HB; have HB := n0_; clear n0_; (try clear hb); (try clear hb2); (try clear hk); (try clear hi)) | ((with_reducible refine gate_callee (f := 9) rfl ?_); refine goesL_ (some 31) rfl rfl Tryd.func9 (by kernel_rfl) rfl #[.slice A3 l3.length c3] rfl (by (try simp only [List.map_toArray, List.map_cons, List.map_nil]); first | done | rfl | (simp only [List.length_drop, List.length_take]; rfl)) ?_; (with_reducible refine (decklelaw16_Few.calls k _ _ l3 false _ ?side1 ?side2 ?side3 A6.out).mono ?_); (case side1 => first | exact hT | exact Tabs.below hT (by repeat (first | (with_reducible first | exact HB.out | apply below_alloc | apply pw_below_drewN | apply below_drew1) | exact HB.out)) | ((repeat (first | exact hT | apply Tabs.drewN | apply Tabs.drew)); done)); (case side2 => repeat (first | exact (Kd.C_below HR3.out HB.out) | (with_reducible refine Kd.C_alloc ?_ _) | (with_reducible refine Kd.C_drewN ?_ _) | (with_reducible refine Kd.C_drew ?_))); (case side3 => exact HC3.out); rintro e w' ⟨rfl, ⟨nd, rfl⟩⟩; refine ⟨_, rfl, ?_⟩))
    go_ret
    exact ⟨by first | rfl | (simp [errW_none, errW_some] <;> rfl) | (simp [*, errW_none, errW_some] <;> rfl) | (simp [errW_none, errW_some, bne_nil_, beq_nil_]; done) | (simp [*, errW_none, errW_some, bne_nil_, beq_nil_]; done), by repeat (first | (with_reducible first | exact HB.out | apply below_alloc | apply pw_below_drewN | apply below_drew1) | exact HB.out)⟩

end Go.Proofs.YtempfafkfkcelaaDoor.All
