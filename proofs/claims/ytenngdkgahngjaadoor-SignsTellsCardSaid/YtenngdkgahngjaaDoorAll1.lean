-- Written for this claim by wip/tools/gprint.py out of the translation (it drives the kit's print). Lean checks it.
import Derived.Test.YtenngdkgahngjaaDoorAll0
namespace Go.Proofs.YtenngdkgahngjaaDoor.All
open Go.RowKit Go.Proofs.YtenngdkgahngjaaDoorW.PrintWords Go.Proofs.YtenngdkgahngjaaDoorW.PrintLast Go.Proofs.YtenngdkgahngjaaDoorW.PrintMore Go.Proofs.YtenngdkgahngjaaDoor.G
attribute [local go_sem] max2_int min2_int max_two min_two max_three min_three max_four min_four str_leq str_gtr str_geq   -- for this text's walks alone
set_option linter.unusedVariables false
set_option linter.unusedSimpArgs false

/-! ### signs_Escape: function 9 -/
def signs_Escape.f (a0 : ByteArray) : Option (ByteArray × Bool) := if a0.size ≤ 100000000 then some (⟨(escE a0.data.toList).1.toArray⟩, (escE a0.data.toList).2) else none
theorem signs_Escape.calls (a0 : ByteArray) (r1 : ByteArray) (r2 : Bool) (w : World) (hT : Tabs w) (h : signs_Escape.f a0 = some (r1, r2)) :
    Calls Tryd.prog 9 #[.string a0] w fun e w' => e = .returned (.tuple #[.string r1, .bool r2]) ∧ Below w.heap.size w w' := by
  unfold signs_Escape.f at h
  by_cases h0 : a0.size ≤ 100000000
  · rw [if_pos h0] at h
    simp only [Option.some.injEq, Prod.mk.injEq] at h
    obtain ⟨rfl, rfl⟩ := h
    exact Escape_all a0.data.toList (by rw [← Lib.size_eq]; exact h0) w hT
  · rw [if_neg h0] at h
    cases h

/-! ### signs_Unescape: function 11 -/
def signs_Unescape.f (a0 : ByteArray) : Option (ByteArray × Bool) := if a0.size ≤ 10000000 then some (⟨(unE a0.data.toList).1.toArray⟩, (unE a0.data.toList).2) else none
theorem signs_Unescape.calls (a0 : ByteArray) (r1 : ByteArray) (r2 : Bool) (w : World) (hT : Tabs w) (h : signs_Unescape.f a0 = some (r1, r2)) :
    Calls Tryd.prog 11 #[.string a0] w fun e w' => e = .returned (.tuple #[.string r1, .bool r2]) ∧ Below w.heap.size w w' := by
  unfold signs_Unescape.f at h
  by_cases h0 : a0.size ≤ 10000000
  · rw [if_pos h0] at h
    simp only [Option.some.injEq, Prod.mk.injEq] at h
    obtain ⟨rfl, rfl⟩ := h
    exact Unescape_all a0.data.toList (by rw [← Lib.size_eq]; exact h0) w hT
  · rw [if_neg h0] at h
    cases h

/-! ### utf8_ValidString: function 25 -/
def utf8_ValidString.f (a0 : ByteArray) : Option Bool := if a0.size ≤ 9223372036854775807 then some (Lib.validD a0.data.toList) else none
theorem utf8_ValidString.calls (a0 : ByteArray) (r : Bool) (w : World) (hT : Tabs w) (h : utf8_ValidString.f a0 = some r) :
    Calls Tryd.prog 25 #[.string a0] w fun e w' => e = .returned (.bool r) ∧ Below w.heap.size w w' := by
  unfold utf8_ValidString.f at h
  by_cases h0 : a0.size ≤ 9223372036854775807
  · rw [if_pos h0] at h
    obtain rfl := Option.some.inj h
    exact Tryd.utf8_ValidString a0 w h0 hT.utf8
  · rw [if_neg h0] at h
    cases h

/-! ### signs_Right: function 13 -/
def signs_Right.f (a0 : ByteArray) : Option (Bool) := (utf8_ValidString.f a0).bind fun t101 => (some t101)
set_option maxHeartbeats 8000000 in
set_option maxRecDepth 100000 in
theorem signs_Right.calls (a0 : ByteArray) (r : Bool) (w : World) (hT : Tabs w) (h : signs_Right.f a0 = some r) :
    Calls Tryd.prog 13 #[.string a0] w fun e w' => e = .returned (.bool r) ∧ Below w.heap.size w w' := by
  have HB := Aside0.mk (Below.refl w.heap.size w)
  have H : ((utf8_ValidString.f a0).bind fun t101 => (some t101)) = some r := h
  clear h
  replace H := Option.bind_eq_some_iff.mp H
  obtain ⟨t101, A20, H⟩ := H
  have A2 := Aside0.mk A20; clear A20
  obtain rfl := Option.some.inj H
  go_enter Tryd.func13, Tryd.ntmps13
  go_wp2_with (first | ((with_reducible refine gate_callee (f := 25) rfl ?_); refine goesL_ (some 4) rfl rfl Tryd.func25 (by kernel_rfl) rfl #[.string a0] rfl (by (try simp only [List.map_toArray, List.map_cons, List.map_nil]); first | done | rfl | (simp only [List.length_drop, List.length_take]; rfl)) ?_; (with_reducible refine (utf8_ValidString.calls a0 t101 _ ?side1 A2.out).mono ?_); (case side1 => first | exact hT | ((repeat (with_reducible first | exact hT | apply Tabs.drewN | apply Tabs.drew)); done) | exact Tabs.below hT (by repeat (first | (with_reducible first | exact HB.out | apply below_alloc | apply pw_below_drewN | apply below_drew1) | exact HB.out))); rintro e w3 ⟨rfl, hb⟩; refine ⟨_, rfl, ?_⟩; have n0_ := Aside0.mk (below_step (by repeat (first | (with_reducible first | exact HB.out | apply below_alloc | apply pw_below_drewN | apply below_drew1) | exact HB.out)) hb); clear HB; have HB := n0_; clear n0_; (try clear hb); (try clear hb2); (try clear hk); (try clear hi)))
  go_ret
  exact ⟨by first | rfl | (simp [errW_none, errW_some] <;> rfl) | (simp [*, errW_none, errW_some] <;> rfl) | (simp [errW_none, errW_some, bne_nil_, beq_nil_]; done) | (simp [*, errW_none, errW_some, bne_nil_, beq_nil_]; done), by repeat (first | (with_reducible first | exact HB.out | apply below_alloc | apply pw_below_drewN | apply below_drew1) | exact HB.out)⟩

/-! ### decklelaw07_small_t: function 8 -/
def decklelaw07_small_t.f  : Option (Bool) := (signs_Escape.f (⟨#[97, 226, 134, 144, 64, 240, 159, 152, 128, 0]⟩ : ByteArray)).bind fun bt102 => ((signs_Escape.f (⟨#[255]⟩ : ByteArray)).bind fun bt104 => ((signs_Unescape.f (⟨#[97, 64, 108, 64, 64, 64, 123, 49, 70, 54, 48, 48, 125, 64, 123, 48, 125]⟩ : ByteArray)).bind fun bt106 => ((signs_Unescape.f (⟨#[64, 123, 50, 49, 57, 48, 125]⟩ : ByteArray)).bind fun bt108 => ((signs_Unescape.f (⟨#[64, 123, 48, 65, 125]⟩ : ByteArray)).bind fun bt110 => ((signs_Unescape.f (⟨#[64]⟩ : ByteArray)).bind fun bt112 => ((signs_Unescape.f (⟨#[226, 134, 144]⟩ : ByteArray)).bind fun bt114 => ((signs_Unescape.f (⟨#[64, 123, 54, 49, 125]⟩ : ByteArray)).bind fun bt116 => ((signs_Unescape.f (⟨#[64, 123, 68, 56, 48, 48, 125]⟩ : ByteArray)).bind fun bt118 => (if bt102.1.toList = ([97, 64, 108, 64, 64, 64, 123, 49, 70, 54, 48, 48, 125, 64, 123, 48, 125] : List UInt8) then (if bt102.2 = true then (if bt104.2 = true then (some false) else (if bt106.1.toList = ([97, 226, 134, 144, 64, 240, 159, 152, 128, 0] : List UInt8) then (if bt106.2 = true then (if bt108.2 = true then (some false) else (if bt110.2 = true then (some false) else (if bt112.2 = true then (some false) else (if bt114.2 = true then (some false) else (if bt116.2 = true then (some false) else (if bt118.2 = true then (some false) else ((signs_Right.f (⟨#[194, 175]⟩ : ByteArray)).bind fun t120 => (if t120 = true then ((signs_Right.f (⟨#[192, 128]⟩ : ByteArray)).bind fun t121 => (if t121 = true then (some false) else ((signs_Right.f (⟨#[237, 160, 128]⟩ : ByteArray)).bind fun t122 => (some (!t122))))) else (some false))))))))) else (some false)) else (some false))) else (some false)) else (some false))))))))))
set_option maxHeartbeats 8000000 in
set_option maxRecDepth 100000 in
theorem decklelaw07_small_t.calls  (r : Bool) (w : World) (hT : Tabs w) (hr : r = true) (h : decklelaw07_small_t.f  = some r) :
    Calls Tryd.prog 8 #[] w fun e w' => e = .returned (.bool r) ∧ Below w.heap.size w w' := by
  have HB := Aside0.mk (Below.refl w.heap.size w)
  have H : ((signs_Escape.f (⟨#[97, 226, 134, 144, 64, 240, 159, 152, 128, 0]⟩ : ByteArray)).bind fun bt102 => ((signs_Escape.f (⟨#[255]⟩ : ByteArray)).bind fun bt104 => ((signs_Unescape.f (⟨#[97, 64, 108, 64, 64, 64, 123, 49, 70, 54, 48, 48, 125, 64, 123, 48, 125]⟩ : ByteArray)).bind fun bt106 => ((signs_Unescape.f (⟨#[64, 123, 50, 49, 57, 48, 125]⟩ : ByteArray)).bind fun bt108 => ((signs_Unescape.f (⟨#[64, 123, 48, 65, 125]⟩ : ByteArray)).bind fun bt110 => ((signs_Unescape.f (⟨#[64]⟩ : ByteArray)).bind fun bt112 => ((signs_Unescape.f (⟨#[226, 134, 144]⟩ : ByteArray)).bind fun bt114 => ((signs_Unescape.f (⟨#[64, 123, 54, 49, 125]⟩ : ByteArray)).bind fun bt116 => ((signs_Unescape.f (⟨#[64, 123, 68, 56, 48, 48, 125]⟩ : ByteArray)).bind fun bt118 => (if bt102.1.toList = ([97, 64, 108, 64, 64, 64, 123, 49, 70, 54, 48, 48, 125, 64, 123, 48, 125] : List UInt8) then (if bt102.2 = true then (if bt104.2 = true then (some false) else (if bt106.1.toList = ([97, 226, 134, 144, 64, 240, 159, 152, 128, 0] : List UInt8) then (if bt106.2 = true then (if bt108.2 = true then (some false) else (if bt110.2 = true then (some false) else (if bt112.2 = true then (some false) else (if bt114.2 = true then (some false) else (if bt116.2 = true then (some false) else (if bt118.2 = true then (some false) else ((signs_Right.f (⟨#[194, 175]⟩ : ByteArray)).bind fun t120 => (if t120 = true then ((signs_Right.f (⟨#[192, 128]⟩ : ByteArray)).bind fun t121 => (if t121 = true then (some false) else ((signs_Right.f (⟨#[237, 160, 128]⟩ : ByteArray)).bind fun t122 => (some (!t122))))) else (some false))))))))) else (some false)) else (some false))) else (some false)) else (some false))))))))))) = some r := h
  clear h
  replace H := Option.bind_eq_some_iff.mp H
  obtain ⟨⟨t102, t103⟩, A10, H⟩ := H
  try dsimp only at H
  have A1 := Aside0.mk A10; clear A10
  replace H := Option.bind_eq_some_iff.mp H
  obtain ⟨⟨t104, t105⟩, A20, H⟩ := H
  try dsimp only at H
  have A2 := Aside0.mk A20; clear A20
  replace H := Option.bind_eq_some_iff.mp H
  obtain ⟨⟨t106, t107⟩, A30, H⟩ := H
  try dsimp only at H
  have A3 := Aside0.mk A30; clear A30
  replace H := Option.bind_eq_some_iff.mp H
  obtain ⟨⟨t108, t109⟩, A40, H⟩ := H
  try dsimp only at H
  have A4 := Aside0.mk A40; clear A40
  replace H := Option.bind_eq_some_iff.mp H
  obtain ⟨⟨t110, t111⟩, A50, H⟩ := H
  try dsimp only at H
  have A5 := Aside0.mk A50; clear A50
  replace H := Option.bind_eq_some_iff.mp H
  obtain ⟨⟨t112, t113⟩, A60, H⟩ := H
  try dsimp only at H
  have A6 := Aside0.mk A60; clear A60
  replace H := Option.bind_eq_some_iff.mp H
  obtain ⟨⟨t114, t115⟩, A70, H⟩ := H
  try dsimp only at H
  have A7 := Aside0.mk A70; clear A70
  replace H := Option.bind_eq_some_iff.mp H
  obtain ⟨⟨t116, t117⟩, A80, H⟩ := H
  try dsimp only at H
  have A8 := Aside0.mk A80; clear A80
  replace H := Option.bind_eq_some_iff.mp H
  obtain ⟨⟨t118, t119⟩, A90, H⟩ := H
  try dsimp only at H
  have A9 := Aside0.mk A90; clear A90
  by_cases c10 : t102.toList = ([97, 64, 108, 64, 64, 64, 123, 49, 70, 54, 48, 48, 125, 64, 123, 48, 125] : List UInt8)
  · rw [if_pos c10] at H
    have c10b0 : (t102.toList == ([97, 64, 108, 64, 64, 64, 123, 49, 70, 54, 48, 48, 125, 64, 123, 48, 125] : List UInt8)) = true := beq_iff_eq.mpr c10
    have c10b1 : (t102.toList != ([97, 64, 108, 64, 64, 64, 123, 49, 70, 54, 48, 48, 125, 64, 123, 48, 125] : List UInt8)) = false := bne_eq_false_iff_eq.mpr c10
    clear c10
    by_cases c11 : t103 = true
    · subst c11
      rw [if_pos rfl] at H
      by_cases c12 : t105 = true
      · subst c12
        rw [if_pos rfl] at H
        exact absurd (Option.some.inj H) (by rw [hr]; decide)
      · replace c12 := Bool.eq_false_iff.mpr c12
        subst c12
        rw [if_neg (show ¬ (false = true) by decide)] at H
        by_cases c13 : t106.toList = ([97, 226, 134, 144, 64, 240, 159, 152, 128, 0] : List UInt8)
        · rw [if_pos c13] at H
          have c13b0 : (t106.toList == ([97, 226, 134, 144, 64, 240, 159, 152, 128, 0] : List UInt8)) = true := beq_iff_eq.mpr c13
          have c13b1 : (t106.toList != ([97, 226, 134, 144, 64, 240, 159, 152, 128, 0] : List UInt8)) = false := bne_eq_false_iff_eq.mpr c13
          clear c13
          by_cases c14 : t107 = true
          · subst c14
            rw [if_pos rfl] at H
            by_cases c15 : t109 = true
            · subst c15
              rw [if_pos rfl] at H
              exact absurd (Option.some.inj H) (by rw [hr]; decide)
            · replace c15 := Bool.eq_false_iff.mpr c15
              subst c15
              rw [if_neg (show ¬ (false = true) by decide)] at H
              by_cases c16 : t111 = true
              · subst c16
                rw [if_pos rfl] at H
                exact absurd (Option.some.inj H) (by rw [hr]; decide)
              · replace c16 := Bool.eq_false_iff.mpr c16
                subst c16
                rw [if_neg (show ¬ (false = true) by decide)] at H
                by_cases c17 : t113 = true
                · subst c17
                  rw [if_pos rfl] at H
                  exact absurd (Option.some.inj H) (by rw [hr]; decide)
                · replace c17 := Bool.eq_false_iff.mpr c17
                  subst c17
                  rw [if_neg (show ¬ (false = true) by decide)] at H
                  by_cases c18 : t115 = true
                  · subst c18
                    rw [if_pos rfl] at H
                    exact absurd (Option.some.inj H) (by rw [hr]; decide)
                  · replace c18 := Bool.eq_false_iff.mpr c18
                    subst c18
                    rw [if_neg (show ¬ (false = true) by decide)] at H
                    by_cases c19 : t117 = true
                    · subst c19
                      rw [if_pos rfl] at H
                      exact absurd (Option.some.inj H) (by rw [hr]; decide)
                    · replace c19 := Bool.eq_false_iff.mpr c19
                      subst c19
                      rw [if_neg (show ¬ (false = true) by decide)] at H
                      by_cases c20 : t119 = true
                      · subst c20
                        rw [if_pos rfl] at H
                        exact absurd (Option.some.inj H) (by rw [hr]; decide)
                      · replace c20 := Bool.eq_false_iff.mpr c20
                        subst c20
                        rw [if_neg (show ¬ (false = true) by decide)] at H
                        replace H := Option.bind_eq_some_iff.mp H
                        obtain ⟨t120, A210, H⟩ := H
                        have A21 := Aside0.mk A210; clear A210
                        by_cases c22 : t120 = true
                        · subst c22
                          rw [if_pos rfl] at H
                          replace H := Option.bind_eq_some_iff.mp H
                          obtain ⟨t121, A230, H⟩ := H
                          have A23 := Aside0.mk A230; clear A230
                          by_cases c24 : t121 = true
                          · subst c24
                            rw [if_pos rfl] at H
                            exact absurd (Option.some.inj H) (by rw [hr]; decide)
                          · replace c24 := Bool.eq_false_iff.mpr c24
                            subst c24
                            rw [if_neg (show ¬ (false = true) by decide)] at H
                            replace H := Option.bind_eq_some_iff.mp H
                            obtain ⟨t122, A250, H⟩ := H
                            have A25 := Aside0.mk A250; clear A250
                            clear hr
                            obtain rfl := Option.some.inj H
                            go_enter Tryd.func8, Tryd.ntmps8
                            go_wp2_with (first | ((with_reducible refine gate_callee (f := 9) rfl ?_); refine goesL_ (some 20) rfl rfl Tryd.func9 (by kernel_rfl) rfl #[.string (⟨#[97, 226, 134, 144, 64, 240, 159, 152, 128, 0]⟩ : ByteArray)] rfl (by (try simp only [List.map_toArray, List.map_cons, List.map_nil]); first | done | rfl | (simp only [List.length_drop, List.length_take]; rfl)) ?_; (with_reducible refine (signs_Escape.calls (⟨#[97, 226, 134, 144, 64, 240, 159, 152, 128, 0]⟩ : ByteArray) t102 true _ ?side1 A1.out).mono ?_); (case side1 => first | exact hT | ((repeat (with_reducible first | exact hT | apply Tabs.drewN | apply Tabs.drew)); done) | exact Tabs.below hT (by repeat (first | (with_reducible first | exact HB.out | apply below_alloc | apply pw_below_drewN | apply below_drew1) | exact HB.out))); rintro e w26 ⟨rfl, hb⟩; refine ⟨_, rfl, ?_⟩; have n0_ := Aside0.mk (below_step (by repeat (first | (with_reducible first | exact HB.out | apply below_alloc | apply pw_below_drewN | apply below_drew1) | exact HB.out)) hb); clear HB; have HB := n0_; clear n0_; (try clear hb); (try clear hb2); (try clear hk); (try clear hi)) | ((with_reducible refine gate_callee (f := 9) rfl ?_); refine goesL_ (some 24) rfl rfl Tryd.func9 (by kernel_rfl) rfl #[.string (⟨#[255]⟩ : ByteArray)] rfl (by (try simp only [List.map_toArray, List.map_cons, List.map_nil]); first | done | rfl | (simp only [List.length_drop, List.length_take]; rfl)) ?_; (with_reducible refine (signs_Escape.calls (⟨#[255]⟩ : ByteArray) t104 false _ ?side1 A2.out).mono ?_); (case side1 => first | exact hT | ((repeat (with_reducible first | exact hT | apply Tabs.drewN | apply Tabs.drew)); done) | exact Tabs.below hT (by repeat (first | (with_reducible first | exact HB.out | apply below_alloc | apply pw_below_drewN | apply below_drew1) | exact HB.out))); rintro e w27 ⟨rfl, hb⟩; refine ⟨_, rfl, ?_⟩; have n0_ := Aside0.mk (below_step (by repeat (first | (with_reducible first | exact HB.out | apply below_alloc | apply pw_below_drewN | apply below_drew1) | exact HB.out)) hb); clear HB; have HB := n0_; clear n0_; (try clear hb); (try clear hb2); (try clear hk); (try clear hi)) | ((with_reducible refine gate_callee (f := 11) rfl ?_); refine goesL_ (some 28) rfl rfl Tryd.func11 (by kernel_rfl) rfl #[.string (⟨#[97, 64, 108, 64, 64, 64, 123, 49, 70, 54, 48, 48, 125, 64, 123, 48, 125]⟩ : ByteArray)] rfl (by (try simp only [List.map_toArray, List.map_cons, List.map_nil]); first | done | rfl | (simp only [List.length_drop, List.length_take]; rfl)) ?_; (with_reducible refine (signs_Unescape.calls (⟨#[97, 64, 108, 64, 64, 64, 123, 49, 70, 54, 48, 48, 125, 64, 123, 48, 125]⟩ : ByteArray) t106 true _ ?side1 A3.out).mono ?_); (case side1 => first | exact hT | ((repeat (with_reducible first | exact hT | apply Tabs.drewN | apply Tabs.drew)); done) | exact Tabs.below hT (by repeat (first | (with_reducible first | exact HB.out | apply below_alloc | apply pw_below_drewN | apply below_drew1) | exact HB.out))); rintro e w28 ⟨rfl, hb⟩; refine ⟨_, rfl, ?_⟩; have n0_ := Aside0.mk (below_step (by repeat (first | (with_reducible first | exact HB.out | apply below_alloc | apply pw_below_drewN | apply below_drew1) | exact HB.out)) hb); clear HB; have HB := n0_; clear n0_; (try clear hb); (try clear hb2); (try clear hk); (try clear hi)) | ((with_reducible refine gate_callee (f := 11) rfl ?_); refine goesL_ (some 32) rfl rfl Tryd.func11 (by kernel_rfl) rfl #[.string (⟨#[64, 123, 50, 49, 57, 48, 125]⟩ : ByteArray)] rfl (by (try simp only [List.map_toArray, List.map_cons, List.map_nil]); first | done | rfl | (simp only [List.length_drop, List.length_take]; rfl)) ?_; (with_reducible refine (signs_Unescape.calls (⟨#[64, 123, 50, 49, 57, 48, 125]⟩ : ByteArray) t108 false _ ?side1 A4.out).mono ?_); (case side1 => first | exact hT | ((repeat (with_reducible first | exact hT | apply Tabs.drewN | apply Tabs.drew)); done) | exact Tabs.below hT (by repeat (first | (with_reducible first | exact HB.out | apply below_alloc | apply pw_below_drewN | apply below_drew1) | exact HB.out))); rintro e w29 ⟨rfl, hb⟩; refine ⟨_, rfl, ?_⟩; have n0_ := Aside0.mk (below_step (by repeat (first | (with_reducible first | exact HB.out | apply below_alloc | apply pw_below_drewN | apply below_drew1) | exact HB.out)) hb); clear HB; have HB := n0_; clear n0_; (try clear hb); (try clear hb2); (try clear hk); (try clear hi)) | ((with_reducible refine gate_callee (f := 11) rfl ?_); refine goesL_ (some 36) rfl rfl Tryd.func11 (by kernel_rfl) rfl #[.string (⟨#[64, 123, 48, 65, 125]⟩ : ByteArray)] rfl (by (try simp only [List.map_toArray, List.map_cons, List.map_nil]); first | done | rfl | (simp only [List.length_drop, List.length_take]; rfl)) ?_; (with_reducible refine (signs_Unescape.calls (⟨#[64, 123, 48, 65, 125]⟩ : ByteArray) t110 false _ ?side1 A5.out).mono ?_); (case side1 => first | exact hT | ((repeat (with_reducible first | exact hT | apply Tabs.drewN | apply Tabs.drew)); done) | exact Tabs.below hT (by repeat (first | (with_reducible first | exact HB.out | apply below_alloc | apply pw_below_drewN | apply below_drew1) | exact HB.out))); rintro e w30 ⟨rfl, hb⟩; refine ⟨_, rfl, ?_⟩; have n0_ := Aside0.mk (below_step (by repeat (first | (with_reducible first | exact HB.out | apply below_alloc | apply pw_below_drewN | apply below_drew1) | exact HB.out)) hb); clear HB; have HB := n0_; clear n0_; (try clear hb); (try clear hb2); (try clear hk); (try clear hi)) | ((with_reducible refine gate_callee (f := 11) rfl ?_); refine goesL_ (some 40) rfl rfl Tryd.func11 (by kernel_rfl) rfl #[.string (⟨#[64]⟩ : ByteArray)] rfl (by (try simp only [List.map_toArray, List.map_cons, List.map_nil]); first | done | rfl | (simp only [List.length_drop, List.length_take]; rfl)) ?_; (with_reducible refine (signs_Unescape.calls (⟨#[64]⟩ : ByteArray) t112 false _ ?side1 A6.out).mono ?_); (case side1 => first | exact hT | ((repeat (with_reducible first | exact hT | apply Tabs.drewN | apply Tabs.drew)); done) | exact Tabs.below hT (by repeat (first | (with_reducible first | exact HB.out | apply below_alloc | apply pw_below_drewN | apply below_drew1) | exact HB.out))); rintro e w31 ⟨rfl, hb⟩; refine ⟨_, rfl, ?_⟩; have n0_ := Aside0.mk (below_step (by repeat (first | (with_reducible first | exact HB.out | apply below_alloc | apply pw_below_drewN | apply below_drew1) | exact HB.out)) hb); clear HB; have HB := n0_; clear n0_; (try clear hb); (try clear hb2); (try clear hk); (try clear hi)) | ((with_reducible refine gate_callee (f := 11) rfl ?_); refine goesL_ (some 44) rfl rfl Tryd.func11 (by kernel_rfl) rfl #[.string (⟨#[226, 134, 144]⟩ : ByteArray)] rfl (by (try simp only [List.map_toArray, List.map_cons, List.map_nil]); first | done | rfl | (simp only [List.length_drop, List.length_take]; rfl)) ?_; (with_reducible refine (signs_Unescape.calls (⟨#[226, 134, 144]⟩ : ByteArray) t114 false _ ?side1 A7.out).mono ?_); (case side1 => first | exact hT | ((repeat (with_reducible first | exact hT | apply Tabs.drewN | apply Tabs.drew)); done) | exact Tabs.below hT (by repeat (first | (with_reducible first | exact HB.out | apply below_alloc | apply pw_below_drewN | apply below_drew1) | exact HB.out))); rintro e w32 ⟨rfl, hb⟩; refine ⟨_, rfl, ?_⟩; have n0_ := Aside0.mk (below_step (by repeat (first | (with_reducible first | exact HB.out | apply below_alloc | apply pw_below_drewN | apply below_drew1) | exact HB.out)) hb); clear HB; have HB := n0_; clear n0_; (try clear hb); (try clear hb2); (try clear hk); (try clear hi)) | ((with_reducible refine gate_callee (f := 11) rfl ?_); refine goesL_ (some 48) rfl rfl Tryd.func11 (by kernel_rfl) rfl #[.string (⟨#[64, 123, 54, 49, 125]⟩ : ByteArray)] rfl (by (try simp only [List.map_toArray, List.map_cons, List.map_nil]); first | done | rfl | (simp only [List.length_drop, List.length_take]; rfl)) ?_; (with_reducible refine (signs_Unescape.calls (⟨#[64, 123, 54, 49, 125]⟩ : ByteArray) t116 false _ ?side1 A8.out).mono ?_); (case side1 => first | exact hT | ((repeat (with_reducible first | exact hT | apply Tabs.drewN | apply Tabs.drew)); done) | exact Tabs.below hT (by repeat (first | (with_reducible first | exact HB.out | apply below_alloc | apply pw_below_drewN | apply below_drew1) | exact HB.out))); rintro e w33 ⟨rfl, hb⟩; refine ⟨_, rfl, ?_⟩; have n0_ := Aside0.mk (below_step (by repeat (first | (with_reducible first | exact HB.out | apply below_alloc | apply pw_below_drewN | apply below_drew1) | exact HB.out)) hb); clear HB; have HB := n0_; clear n0_; (try clear hb); (try clear hb2); (try clear hk); (try clear hi)) | ((with_reducible refine gate_callee (f := 11) rfl ?_); refine goesL_ (some 52) rfl rfl Tryd.func11 (by kernel_rfl) rfl #[.string (⟨#[64, 123, 68, 56, 48, 48, 125]⟩ : ByteArray)] rfl (by (try simp only [List.map_toArray, List.map_cons, List.map_nil]); first | done | rfl | (simp only [List.length_drop, List.length_take]; rfl)) ?_; (with_reducible refine (signs_Unescape.calls (⟨#[64, 123, 68, 56, 48, 48, 125]⟩ : ByteArray) t118 false _ ?side1 A9.out).mono ?_); (case side1 => first | exact hT | ((repeat (with_reducible first | exact hT | apply Tabs.drewN | apply Tabs.drew)); done) | exact Tabs.below hT (by repeat (first | (with_reducible first | exact HB.out | apply below_alloc | apply pw_below_drewN | apply below_drew1) | exact HB.out))); rintro e w34 ⟨rfl, hb⟩; refine ⟨_, rfl, ?_⟩; have n0_ := Aside0.mk (below_step (by repeat (first | (with_reducible first | exact HB.out | apply below_alloc | apply pw_below_drewN | apply below_drew1) | exact HB.out)) hb); clear HB; have HB := n0_; clear n0_; (try clear hb); (try clear hb2); (try clear hk); (try clear hi)) | (go_at_call 13; (with_reducible refine (signs_Right.calls (⟨#[194, 175]⟩ : ByteArray) true _ ?side1 A21.out).mono ?_); (case side1 => first | exact hT | ((repeat (with_reducible first | exact hT | apply Tabs.drewN | apply Tabs.drew)); done) | exact Tabs.below hT (by repeat (first | (with_reducible first | exact HB.out | apply below_alloc | apply pw_below_drewN | apply below_drew1) | exact HB.out))); rintro e w35 ⟨rfl, hb⟩; have n0_ := Aside0.mk (below_step (by repeat (first | (with_reducible first | exact HB.out | apply below_alloc | apply pw_below_drewN | apply below_drew1) | exact HB.out)) hb); clear HB; have HB := n0_; clear n0_; (try clear hb); (try clear hb2); (try clear hk); (try clear hi)) | (go_at_call 13; (with_reducible refine (signs_Right.calls (⟨#[192, 128]⟩ : ByteArray) false _ ?side1 A23.out).mono ?_); (case side1 => first | exact hT | ((repeat (with_reducible first | exact hT | apply Tabs.drewN | apply Tabs.drew)); done) | exact Tabs.below hT (by repeat (first | (with_reducible first | exact HB.out | apply below_alloc | apply pw_below_drewN | apply below_drew1) | exact HB.out))); rintro e w36 ⟨rfl, hb⟩; have n0_ := Aside0.mk (below_step (by repeat (first | (with_reducible first | exact HB.out | apply below_alloc | apply pw_below_drewN | apply below_drew1) | exact HB.out)) hb); clear HB; have HB := n0_; clear n0_; (try clear hb); (try clear hb2); (try clear hk); (try clear hi)) | (go_at_call 13; (with_reducible refine (signs_Right.calls (⟨#[237, 160, 128]⟩ : ByteArray) t122 _ ?side1 A25.out).mono ?_); (case side1 => first | exact hT | ((repeat (with_reducible first | exact hT | apply Tabs.drewN | apply Tabs.drew)); done) | exact Tabs.below hT (by repeat (first | (with_reducible first | exact HB.out | apply below_alloc | apply pw_below_drewN | apply below_drew1) | exact HB.out))); rintro e w37 ⟨rfl, hb⟩; have n0_ := Aside0.mk (below_step (by repeat (first | (with_reducible first | exact HB.out | apply below_alloc | apply pw_below_drewN | apply below_drew1) | exact HB.out)) hb); clear HB; have HB := n0_; clear n0_; (try clear hb); (try clear hb2); (try clear hk); (try clear hi)))
                            go_ret
                            exact ⟨by first | rfl | (simp [errW_none, errW_some] <;> rfl) | (simp [*, errW_none, errW_some] <;> rfl) | (simp [errW_none, errW_some, bne_nil_, beq_nil_]; done) | (simp [*, errW_none, errW_some, bne_nil_, beq_nil_]; done), by repeat (first | (with_reducible first | exact HB.out | apply below_alloc | apply pw_below_drewN | apply below_drew1) | exact HB.out)⟩
                        · replace c22 := Bool.eq_false_iff.mpr c22
                          subst c22
                          rw [if_neg (show ¬ (false = true) by decide)] at H
                          exact absurd (Option.some.inj H) (by rw [hr]; decide)
          · replace c14 := Bool.eq_false_iff.mpr c14
            subst c14
            rw [if_neg (show ¬ (false = true) by decide)] at H
            exact absurd (Option.some.inj H) (by rw [hr]; decide)
        · rw [if_neg c13] at H
          have c13b0 : (t106.toList == ([97, 226, 134, 144, 64, 240, 159, 152, 128, 0] : List UInt8)) = false := beq_eq_false_iff_ne.mpr c13
          have c13b1 : (t106.toList != ([97, 226, 134, 144, 64, 240, 159, 152, 128, 0] : List UInt8)) = true := bne_iff_ne.mpr c13
          exact absurd (Option.some.inj H) (by rw [hr]; decide)
    · replace c11 := Bool.eq_false_iff.mpr c11
      subst c11
      rw [if_neg (show ¬ (false = true) by decide)] at H
      exact absurd (Option.some.inj H) (by rw [hr]; decide)
  · rw [if_neg c10] at H
    have c10b0 : (t102.toList == ([97, 64, 108, 64, 64, 64, 123, 49, 70, 54, 48, 48, 125, 64, 123, 48, 125] : List UInt8)) = false := beq_eq_false_iff_ne.mpr c10
    have c10b1 : (t102.toList != ([97, 64, 108, 64, 64, 64, 123, 49, 70, 54, 48, 48, 125, 64, 123, 48, 125] : List UInt8)) = true := bne_iff_ne.mpr c10
    exact absurd (Option.some.inj H) (by rw [hr]; decide)

def decklelaw07_small.f : Option Bool := (decklelaw07_small_t.f).bind fun b => if b = true then some true else none
theorem decklelaw07_small.calls (r : Bool) (w : World) (hT : Tabs w) (h : decklelaw07_small.f = some r) :
    Calls Tryd.prog 8 #[] w fun e w' => e = .returned (.bool r) ∧ Below w.heap.size w w' := by
  obtain ⟨b, hb, hi⟩ := Option.bind_eq_some_iff.mp h
  cases b with
  | false => exact absurd hi (by simp)
  | true =>
    obtain rfl : true = r := by simpa using hi
    exact decklelaw07_small_t.calls true w hT rfl hb

end Go.Proofs.YtenngdkgahngjaaDoor.All
