-- Written for this claim by wip/tools/gprint.py out of the translation (it drives the kit's print). Lean checks it.
import Derived.Test.YtempfafkfkcelaaDoorAll0
import Derived.Test.YtempfafkfkcelaaDoorAll2
import Derived.Test.YtempfafkfkcelaaDoorAll3
import Derived.Test.YtempfafkfkcelaaDoorAll4
import Derived.Test.YtempfafkfkcelaaDoorAll5
namespace Go.Proofs.YtempfafkfkcelaaDoor.All
open Go.RowKit Go.Proofs.YtempfafkfkcelaaDoorW.PrintWords Go.Proofs.YtempfafkfkcelaaDoorW.PrintLast Go.Proofs.YtempfafkfkcelaaDoorW.PrintMore Go.Proofs.YtempfafkfkcelaaDoor.G
attribute [local go_sem] max2_int min2_int max_two min_two max_three min_three max_four min_four str_leq str_gtr str_geq   -- for this text's walks alone
set_option linter.unusedVariables false
set_option linter.unusedSimpArgs false

/-! ### decklelaw20_RecordBack_t: function 4 -/
mutual
def decklelaw20_RecordBack_t.l0 : Nat → ByteArray → Int → Bool → List ByteArray → Bool → Int → Option (Bool)
  | 0, _, _, _, _, _, _ => none
  | k + 1, x0, x1, x5, x6, x7, x8 => if x8 < (x0.size : Int) then (if 0 ≤ x8 then (if (bt x0 x8) < 32 then (if x5 = true then (if x7 = true then (some false) else (some ((x6.length : Int) == 0))) else (some false)) else (if (bt x0 x8) > 126 then (if x5 = true then (if x7 = true then (some false) else (some ((x6.length : Int) == 0))) else (some false)) else (decklelaw20_RecordBack_t.l0 k x0 x1 x5 x6 x7 (wrap64 (x8 + 1))))) else (none)) else (decklelaw20_RecordBack_t.l1 k x0 x1 x5 x6 x7 ([] : List ByteArray) 0)
def decklelaw20_RecordBack_t.l1 : Nat → ByteArray → Int → Bool → List ByteArray → Bool → List ByteArray → Int → Option (Bool)
  | 0, _, _, _, _, _, _, _ => none
  | k + 1, x0, x1, x5, x6, x7, x9, x10 => if x10 < (x6.length : Int) then (if 0 ≤ x10 then ((record_Read.f k (rdOf ByteArray.empty x6 x10) (wrap64 (x1 + x10))).bind fun bt224 => (if x10 = (wrap64 ((x6.length : Int) - 1)) then (if bt224.2.2 = true then (if bt224.1 = 88 then (if (bt224.2.1.size : Int) = 71 then (if ((rdOf ByteArray.empty x6 x10).size : Int) = 80 then (if x9.length < 8796093022208 then (decklelaw20_RecordBack_t.l1 k x0 x1 x5 x6 x7 (x9 ++ [bt224.2.1]) (wrap64 (x10 + 1))) else (none)) else (some false)) else (some false)) else (some false)) else (some false)) else (if bt224.2.2 = true then (if bt224.1 = 32 then (if (bt224.2.1.size : Int) = 71 then (if ((rdOf ByteArray.empty x6 x10).size : Int) = 80 then (if x9.length < 8796093022208 then (decklelaw20_RecordBack_t.l1 k x0 x1 x5 x6 x7 (x9 ++ [bt224.2.1]) (wrap64 (x10 + 1))) else (none)) else (some false)) else (some false)) else (some false)) else (some false)))) else (none)) else ((record_Get.f x9).bind fun bt235 => (if x5 = true then (if x7 = true then (if bt235.2 = true then (if bt235.1.toList = x0.toList then (some ((x6.length : Int) == (wrap64 ((wrap64 ((x0.size : Int) / 71)) + 1)))) else (some false)) else (some false)) else (some false)) else (some false)))
end
def decklelaw20_RecordBack_t.f (k : Nat) (a0 : ByteArray) (a1 : Int) : Option (Bool) := (decklelaw20_small.f k).bind fun t218 => (if (a0.size : Int) > 500 then (some t218) else (if a1 < 0 then (some t218) else (if a1 > 1099511627776 then (some t218) else ((record_Put.f k a0 a1).bind fun bt219 => (decklelaw20_RecordBack_t.l0 k a0 a1 t218 bt219.1 bt219.2 0)))))
theorem decklelaw20_RecordBack_t.mono_l : ∀ k, (∀ y0 y1 y2 y3 y4 y5, LeO (decklelaw20_RecordBack_t.l0 k y0 y1 y2 y3 y4 y5) (decklelaw20_RecordBack_t.l0 (k + 1) y0 y1 y2 y3 y4 y5)) ∧ (∀ y0 y1 y2 y3 y4 y5 y6, LeO (decklelaw20_RecordBack_t.l1 k y0 y1 y2 y3 y4 y5 y6) (decklelaw20_RecordBack_t.l1 (k + 1) y0 y1 y2 y3 y4 y5 y6))
  | 0 => ⟨fun _ _ _ _ _ _ r h => by simp [decklelaw20_RecordBack_t.l0] at h, fun _ _ _ _ _ _ _ r h => by simp [decklelaw20_RecordBack_t.l1] at h⟩
  | k + 1 => by
    obtain ⟨ih0, ih1⟩ := decklelaw20_RecordBack_t.mono_l k
    refine ⟨?_, ?_⟩
    · intro y0 y1 y2 y3 y4 y5
      unfold decklelaw20_RecordBack_t.l0
      repeat' first
      | (with_reducible exact ih0 _ _ _ _ _ _)
      | (with_reducible exact ih1 _ _ _ _ _ _ _)
      | (with_reducible exact decklelaw20_small.mono _)
      | (with_reducible exact record_Put.mono _ _ _)
      | (with_reducible exact record_Read.mono _ _ _)
      | (with_reducible exact LeO.refl _)
      | (with_reducible exact LeO.none _)
      | (with_reducible refine LeO.ite ?_ ?_)
      | (with_reducible refine LeO.bind ?_ (fun _ => ?_))
      | exact ih0 _ _ _ _ _ _
      | exact ih1 _ _ _ _ _ _ _
      | exact decklelaw20_small.mono _
      | exact record_Put.mono _ _ _
      | exact record_Read.mono _ _ _
      | exact LeO.none _
      | refine LeO.ite ?_ ?_
      | refine LeO.bind ?_ (fun _ => ?_)
    · intro y0 y1 y2 y3 y4 y5 y6
      unfold decklelaw20_RecordBack_t.l1
      repeat' first
      | (with_reducible exact ih0 _ _ _ _ _ _)
      | (with_reducible exact ih1 _ _ _ _ _ _ _)
      | (with_reducible exact decklelaw20_small.mono _)
      | (with_reducible exact record_Put.mono _ _ _)
      | (with_reducible exact record_Read.mono _ _ _)
      | (with_reducible exact LeO.refl _)
      | (with_reducible exact LeO.none _)
      | (with_reducible refine LeO.ite ?_ ?_)
      | (with_reducible refine LeO.bind ?_ (fun _ => ?_))
      | exact ih0 _ _ _ _ _ _
      | exact ih1 _ _ _ _ _ _ _
      | exact decklelaw20_small.mono _
      | exact record_Put.mono _ _ _
      | exact record_Read.mono _ _ _
      | exact LeO.none _
      | refine LeO.ite ?_ ?_
      | refine LeO.bind ?_ (fun _ => ?_)
theorem decklelaw20_RecordBack_t.mono : ∀ a0 a1 k, LeO (decklelaw20_RecordBack_t.f k a0 a1) (decklelaw20_RecordBack_t.f (k + 1) a0 a1) := by
  intro a0 a1 k
  obtain ⟨ih0, ih1⟩ := decklelaw20_RecordBack_t.mono_l k
  unfold decklelaw20_RecordBack_t.f
  repeat' first
      | (with_reducible exact ih0 _ _ _ _ _ _)
      | (with_reducible exact ih1 _ _ _ _ _ _ _)
      | (with_reducible exact decklelaw20_small.mono _)
      | (with_reducible exact record_Put.mono _ _ _)
      | (with_reducible exact record_Read.mono _ _ _)
      | (with_reducible exact LeO.refl _)
      | (with_reducible exact LeO.none _)
      | (with_reducible refine LeO.ite ?_ ?_)
      | (with_reducible refine LeO.bind ?_ (fun _ => ?_))
      | exact ih0 _ _ _ _ _ _
      | exact ih1 _ _ _ _ _ _ _
      | exact decklelaw20_small.mono _
      | exact record_Put.mono _ _ _
      | exact record_Read.mono _ _ _
      | exact LeO.none _
      | refine LeO.ite ?_ ?_
      | refine LeO.bind ?_ (fun _ => ?_)
set_option maxHeartbeats 8000000 in
set_option maxRecDepth 100000 in
theorem decklelaw20_RecordBack_t.calls (k : Nat) (a0 : ByteArray) (a1 : Int) (r : Bool) (w : World) (hT : Tabs w) (hr : r = true) (h : decklelaw20_RecordBack_t.f k a0 a1 = some r) :
    Calls Tryd.prog 4 #[.string a0, .int .i64 a1] w fun e w' => e = .returned (.bool r) ∧ Below w.heap.size w w' := by
  have HB := Aside0.mk (Below.refl w.heap.size w)
  have H : ((decklelaw20_small.f k).bind fun t218 => (if (a0.size : Int) > 500 then (some t218) else (if a1 < 0 then (some t218) else (if a1 > 1099511627776 then (some t218) else ((record_Put.f k a0 a1).bind fun bt219 => (decklelaw20_RecordBack_t.l0 k a0 a1 t218 bt219.1 bt219.2 0)))))) = some r := h
  clear h
  replace H := Option.bind_eq_some_iff.mp H
  obtain ⟨t218, A30, H⟩ := H
  have A3 := Aside0.mk A30; clear A30
  by_cases c4 : (a0.size : Int) > 500
  · rw [if_pos c4] at H
    have c4b0 : decide (500 < (a0.size : Int)) = true := decide_eq_true c4
    have c4b1 : decide (500 < a0.size) = true := decide_eq_true (by omega)
    clear c4
    clear hr
    obtain rfl := Option.some.inj H
    go_enter Tryd.func4, Tryd.ntmps4
    go_wp2_with (first | ((with_reducible refine gate_callee (f := 8) rfl ?_); refine goesL_ (some 17) rfl rfl Tryd.func8 (by kernel_rfl) rfl #[] rfl (by (try simp only [List.map_toArray, List.map_cons, List.map_nil]); first | done | rfl | (simp only [List.length_drop, List.length_take]; rfl)) ?_; (with_reducible refine (decklelaw20_small.calls k  t218 _ ?side1 A3.out).mono ?_); (case side1 => first | exact hT | exact Tabs.below hT (by repeat (first | (with_reducible first | exact HB.out | apply below_alloc | apply pw_below_drewN | apply below_drew1) | exact HB.out)) | ((repeat (first | exact hT | apply Tabs.drewN | apply Tabs.drew)); done)); rintro e w5 ⟨rfl, hb⟩; refine ⟨_, rfl, ?_⟩; have n0_ := Aside0.mk (below_step (by repeat (first | (with_reducible first | exact HB.out | apply below_alloc | apply pw_below_drewN | apply below_drew1) | exact HB.out)) hb); clear HB; have HB := n0_; clear n0_; (try clear hb); (try clear hb2); (try clear hk); (try clear hi)))
    go_ret
    exact ⟨by first | rfl | (simp [errW_none, errW_some] <;> rfl) | (simp [*, errW_none, errW_some] <;> rfl) | (simp [errW_none, errW_some, bne_nil_, beq_nil_]; done) | (simp [*, errW_none, errW_some, bne_nil_, beq_nil_]; done), by repeat (first | (with_reducible first | exact HB.out | apply below_alloc | apply pw_below_drewN | apply below_drew1) | exact HB.out)⟩
  · rw [if_neg c4] at H
    have c4b0 : decide (500 < (a0.size : Int)) = false := decide_eq_false c4
    have c4b1 : decide (500 < a0.size) = false := decide_eq_false (by omega)
    clear c4
    by_cases c6 : a1 < 0
    · rw [if_pos c6] at H
      have c6b0 : decide (a1 < 0) = true := decide_eq_true c6
      clear c6
      clear hr
      obtain rfl := Option.some.inj H
      go_enter Tryd.func4, Tryd.ntmps4
      go_wp2_with (first | ((with_reducible refine gate_callee (f := 8) rfl ?_); refine goesL_ (some 17) rfl rfl Tryd.func8 (by kernel_rfl) rfl #[] rfl (by (try simp only [List.map_toArray, List.map_cons, List.map_nil]); first | done | rfl | (simp only [List.length_drop, List.length_take]; rfl)) ?_; (with_reducible refine (decklelaw20_small.calls k  t218 _ ?side1 A3.out).mono ?_); (case side1 => first | exact hT | exact Tabs.below hT (by repeat (first | (with_reducible first | exact HB.out | apply below_alloc | apply pw_below_drewN | apply below_drew1) | exact HB.out)) | ((repeat (first | exact hT | apply Tabs.drewN | apply Tabs.drew)); done)); rintro e w7 ⟨rfl, hb⟩; refine ⟨_, rfl, ?_⟩; have n0_ := Aside0.mk (below_step (by repeat (first | (with_reducible first | exact HB.out | apply below_alloc | apply pw_below_drewN | apply below_drew1) | exact HB.out)) hb); clear HB; have HB := n0_; clear n0_; (try clear hb); (try clear hb2); (try clear hk); (try clear hi)))
      go_ret
      exact ⟨by first | rfl | (simp [errW_none, errW_some] <;> rfl) | (simp [*, errW_none, errW_some] <;> rfl) | (simp [errW_none, errW_some, bne_nil_, beq_nil_]; done) | (simp [*, errW_none, errW_some, bne_nil_, beq_nil_]; done), by repeat (first | (with_reducible first | exact HB.out | apply below_alloc | apply pw_below_drewN | apply below_drew1) | exact HB.out)⟩
    · rw [if_neg c6] at H
      have c6b0 : decide (a1 < 0) = false := decide_eq_false c6
      clear c6
      by_cases c8 : a1 > 1099511627776
      · rw [if_pos c8] at H
        have c8b0 : decide (1099511627776 < a1) = true := decide_eq_true c8
        clear c8
        clear hr
        obtain rfl := Option.some.inj H
        go_enter Tryd.func4, Tryd.ntmps4
        go_wp2_with (first | ((with_reducible refine gate_callee (f := 8) rfl ?_); refine goesL_ (some 17) rfl rfl Tryd.func8 (by kernel_rfl) rfl #[] rfl (by (try simp only [List.map_toArray, List.map_cons, List.map_nil]); first | done | rfl | (simp only [List.length_drop, List.length_take]; rfl)) ?_; (with_reducible refine (decklelaw20_small.calls k  t218 _ ?side1 A3.out).mono ?_); (case side1 => first | exact hT | exact Tabs.below hT (by repeat (first | (with_reducible first | exact HB.out | apply below_alloc | apply pw_below_drewN | apply below_drew1) | exact HB.out)) | ((repeat (first | exact hT | apply Tabs.drewN | apply Tabs.drew)); done)); rintro e w9 ⟨rfl, hb⟩; refine ⟨_, rfl, ?_⟩; have n0_ := Aside0.mk (below_step (by repeat (first | (with_reducible first | exact HB.out | apply below_alloc | apply pw_below_drewN | apply below_drew1) | exact HB.out)) hb); clear HB; have HB := n0_; clear n0_; (try clear hb); (try clear hb2); (try clear hk); (try clear hi)))
        go_ret
        exact ⟨by first | rfl | (simp [errW_none, errW_some] <;> rfl) | (simp [*, errW_none, errW_some] <;> rfl) | (simp [errW_none, errW_some, bne_nil_, beq_nil_]; done) | (simp [*, errW_none, errW_some, bne_nil_, beq_nil_]; done), by repeat (first | (with_reducible first | exact HB.out | apply below_alloc | apply pw_below_drewN | apply below_drew1) | exact HB.out)⟩
      · rw [if_neg c8] at H
        have c8b0 : decide (1099511627776 < a1) = false := decide_eq_false c8
        clear c8
        replace H := Option.bind_eq_some_iff.mp H
        obtain ⟨⟨t219, t220⟩, A100, H⟩ := H
        try dsimp only at H
        have A10 := Aside0.mk A100; clear A100
        have H' := Aside0.mk H
        clear H
        go_enter Tryd.func4, Tryd.ntmps4
        go_wp2_with (first | ((with_reducible refine gate_callee (f := 8) rfl ?_); refine goesL_ (some 17) rfl rfl Tryd.func8 (by kernel_rfl) rfl #[] rfl (by (try simp only [List.map_toArray, List.map_cons, List.map_nil]); first | done | rfl | (simp only [List.length_drop, List.length_take]; rfl)) ?_; (with_reducible refine (decklelaw20_small.calls k  t218 _ ?side1 A3.out).mono ?_); (case side1 => first | exact hT | exact Tabs.below hT (by repeat (first | (with_reducible first | exact HB.out | apply below_alloc | apply pw_below_drewN | apply below_drew1) | exact HB.out)) | ((repeat (first | exact hT | apply Tabs.drewN | apply Tabs.drew)); done)); rintro e w11 ⟨rfl, hb⟩; refine ⟨_, rfl, ?_⟩; have n0_ := Aside0.mk (below_step (by repeat (first | (with_reducible first | exact HB.out | apply below_alloc | apply pw_below_drewN | apply below_drew1) | exact HB.out)) hb); clear HB; have HB := n0_; clear n0_; (try clear hb); (try clear hb2); (try clear hk); (try clear hi)) | ((with_reducible refine gate_callee (f := 14) rfl ?_); refine goesL_ (some 33) rfl rfl Tryd.func14 (by kernel_rfl) rfl #[.string a0, .int .i64 a1] rfl (by (try simp only [List.map_toArray, List.map_cons, List.map_nil]); first | done | rfl | (simp only [List.length_drop, List.length_take]; rfl)) ?_; (with_reducible refine (record_Put.calls k a0 a1 t219 t220 _ ?side1 A10.out).mono ?_); (case side1 => first | exact hT | exact Tabs.below hT (by repeat (first | (with_reducible first | exact HB.out | apply below_alloc | apply pw_below_drewN | apply below_drew1) | exact HB.out)) | ((repeat (first | exact hT | apply Tabs.drewN | apply Tabs.drew)); done)); rintro e w12 ⟨v221, rfl, ho0, hb⟩; refine ⟨_, rfl, ?_⟩; have n0_ := Aside0.mk (Kd.R_lower ho0 (below_size (by repeat (first | (with_reducible first | exact HB.out | apply below_alloc | apply pw_below_drewN | apply below_drew1) | exact HB.out)))); have n1_ := Aside0.mk (below_step (by repeat (first | (with_reducible first | exact HB.out | apply below_alloc | apply pw_below_drewN | apply below_drew1) | exact HB.out)) hb); clear HB; have HO222 := n0_; have HB := n1_; clear n0_ n1_; (try clear hb); (try clear hb2); (try clear hk); (try clear hi); (try clear ho0)))
        go_loopg [8] k (fun kq v8 w' => ∃ (x8_1 : Int), v8 = .int .i64 x8_1 ∧ Aside0 (decklelaw20_RecordBack_t.l0 kq a0 a1 t218 t219 t220 x8_1 = some r) ∧ Aside0 (kq ≤ k) ∧ Aside0 (Kd.R Kd.string 9 w' w.heap.size (fun _ => True) v221 t219) ∧ Aside0 (Below w.heap.size w w'))
        case atStart => exact ⟨(0), (by first | rfl | (simp; done) | (simp [*]; done)), H', ⟨Nat.le_refl _⟩, ⟨by (with_reducible repeat (first | apply Kd.R_alloc | apply Kd.R_drewN | apply Kd.R_drew)); exact HO222.out⟩, ⟨by repeat (first | (with_reducible first | exact HB.out | apply below_alloc | apply pw_below_drewN | apply below_drew1) | exact HB.out)⟩⟩
        case round =>
          clear H'
          try clear c1
          try clear p2
          try clear c4
          try clear c4b0
          try clear c4b1
          try clear c6
          try clear c6b0
          try clear c8
          try clear c8b0
          obtain ⟨x8_1, rfl, HA, HK1, HO_6, HB⟩ := hrel
          cases gk with
          | zero => exact absurd HA.out (by simp [decklelaw20_RecordBack_t.l0])
          | succ k1 =>
            have H := HA.out
            clear HA
            simp only [decklelaw20_RecordBack_t.l0] at H
            by_cases c13 : x8_1 < (a0.size : Int)
            · rw [if_pos c13] at H
              have c13b0 : decide (x8_1 < (a0.size : Int)) = true := decide_eq_true c13
              clear c13
              by_cases c14 : 0 ≤ x8_1
              · rw [if_pos c14] at H
                have c14b0 : decide (0 ≤ x8_1) = true := decide_eq_true c14
                clear c14
                by_cases c16 : (bt a0 x8_1) < 32
                · rw [if_pos c16] at H
                  have c16b0 : decide ((bt a0 x8_1) < 32) = true := decide_eq_true c16
                  clear c16
                  by_cases c17 : t218 = true
                  · subst c17
                    rw [if_pos rfl] at H
                    by_cases c18 : t220 = true
                    · subst c18
                      rw [if_pos rfl] at H
                      exact absurd (Option.some.inj H) (by rw [hr]; decide)
                    · replace c18 := Bool.eq_false_iff.mpr c18
                      subst c18
                      rw [if_neg (show ¬ (false = true) by decide)] at H
                      clear hr
                      obtain rfl := Option.some.inj H
                      have p15 : 0 ≤ (x8_1 : Int) := of_decide_eq_true (by first | (with_reducible assumption) | assumption)
                      have q15 : x8_1 < (a0.size : Int) := of_decide_eq_true (by first | (with_reducible assumption) | assumption)
                      have hx15 := bt_at a0 x8_1
                      replace p15 := eq_true p15
                      replace q15 := eq_true q15
                      obtain ⟨Ao19, co19, eo19⟩ := Kd.R_slice HO_6.out
                      subst eo19
                      go_wp2
                      go_ret
                      exact ⟨by first | rfl | (simp [errW_none, errW_some] <;> rfl) | (simp [*, errW_none, errW_some] <;> rfl) | (simp [errW_none, errW_some, bne_nil_, beq_nil_]; done) | (simp [*, errW_none, errW_some, bne_nil_, beq_nil_]; done), by repeat (first | (with_reducible first | exact HB.out | apply below_alloc | apply pw_below_drewN | apply below_drew1) | exact HB.out)⟩
                  · replace c17 := Bool.eq_false_iff.mpr c17
                    subst c17
                    rw [if_neg (show ¬ (false = true) by decide)] at H
                    exact absurd (Option.some.inj H) (by rw [hr]; decide)
                · rw [if_neg c16] at H
                  have c16b0 : decide ((bt a0 x8_1) < 32) = false := decide_eq_false c16
                  clear c16
                  by_cases c21 : (bt a0 x8_1) > 126
                  · rw [if_pos c21] at H
                    have c21b0 : decide (126 < (bt a0 x8_1)) = true := decide_eq_true c21
                    clear c21
                    by_cases c22 : t218 = true
                    · subst c22
                      rw [if_pos rfl] at H
                      by_cases c23 : t220 = true
                      · subst c23
                        rw [if_pos rfl] at H
                        exact absurd (Option.some.inj H) (by rw [hr]; decide)
                      · replace c23 := Bool.eq_false_iff.mpr c23
                        subst c23
                        rw [if_neg (show ¬ (false = true) by decide)] at H
                        clear hr
                        obtain rfl := Option.some.inj H
                        have p15 : 0 ≤ (x8_1 : Int) := of_decide_eq_true (by first | (with_reducible assumption) | assumption)
                        have q15 : x8_1 < (a0.size : Int) := of_decide_eq_true (by first | (with_reducible assumption) | assumption)
                        have hx15 := bt_at a0 x8_1
                        replace p15 := eq_true p15
                        replace q15 := eq_true q15
                        have p20 : 0 ≤ (x8_1 : Int) := of_decide_eq_true (by first | (with_reducible assumption) | assumption)
                        have q20 : x8_1 < (a0.size : Int) := of_decide_eq_true (by first | (with_reducible assumption) | assumption)
                        have hx20 := bt_at a0 x8_1
                        replace p20 := eq_true p20
                        replace q20 := eq_true q20
                        obtain ⟨Ao24, co24, eo24⟩ := Kd.R_slice HO_6.out
                        subst eo24
                        go_wp2
                        go_ret
                        exact ⟨by first | rfl | (simp [errW_none, errW_some] <;> rfl) | (simp [*, errW_none, errW_some] <;> rfl) | (simp [errW_none, errW_some, bne_nil_, beq_nil_]; done) | (simp [*, errW_none, errW_some, bne_nil_, beq_nil_]; done), by repeat (first | (with_reducible first | exact HB.out | apply below_alloc | apply pw_below_drewN | apply below_drew1) | exact HB.out)⟩
                    · replace c22 := Bool.eq_false_iff.mpr c22
                      subst c22
                      rw [if_neg (show ¬ (false = true) by decide)] at H
                      exact absurd (Option.some.inj H) (by rw [hr]; decide)
                  · rw [if_neg c21] at H
                    have c21b0 : decide (126 < (bt a0 x8_1)) = false := decide_eq_false c21
                    clear c21
                    have H' := Aside0.mk H
                    clear H
                    have p15 : 0 ≤ (x8_1 : Int) := of_decide_eq_true (by first | (with_reducible assumption) | assumption)
                    have q15 : x8_1 < (a0.size : Int) := of_decide_eq_true (by first | (with_reducible assumption) | assumption)
                    have hx15 := bt_at a0 x8_1
                    replace p15 := eq_true p15
                    replace q15 := eq_true q15
                    have p20 : 0 ≤ (x8_1 : Int) := of_decide_eq_true (by first | (with_reducible assumption) | assumption)
                    have q20 : x8_1 < (a0.size : Int) := of_decide_eq_true (by first | (with_reducible assumption) | assumption)
                    have hx20 := bt_at a0 x8_1
                    replace p20 := eq_true p20
                    replace q20 := eq_true q20
                    go_wp2
                    go_roundg k1
                    case measure => have := HK1.out; omega
                    case rel => exact ⟨(wrap64 (x8_1 + 1)), (by first | rfl | (simp; done) | (simp [*]; done)), H', ⟨by have := HK1.out; omega⟩, ⟨by (with_reducible repeat (first | apply Kd.R_alloc | apply Kd.R_drewN | apply Kd.R_drew)); exact HO_6.out⟩, ⟨by repeat (first | (with_reducible first | exact HB.out | apply below_alloc | apply pw_below_drewN | apply below_drew1) | exact HB.out)⟩⟩
              · rw [if_neg c14] at H
                exact absurd H (by simp)
            · rw [if_neg c13] at H
              have c13b0 : decide (x8_1 < (a0.size : Int)) = false := decide_eq_false c13
              clear c13
              have H' := Aside0.mk H
              clear H
              go_wp2
              go_loopg [9, 10] k1 (fun kq v9 v10 w' => ∃ (x9_2 : List ByteArray) (x10_2 : Int), v10 = .int .i64 x10_2 ∧ Aside0 (decklelaw20_RecordBack_t.l1 kq a0 a1 t218 t219 t220 x9_2 x10_2 = some r) ∧ Aside0 (kq ≤ k1) ∧ Aside0 (Kd.R Kd.string 9 w' w.heap.size (fun k_ => some k_ ≠ (v9 : Value).ownBlock) v221 t219) ∧ Aside0 (Kd.R Kd.string 9 w' w.heap.size (fun k_ => some k_ ≠ (v221 : Value).ownBlock) v9 x9_2) ∧ Aside0 (Below w.heap.size w w'))
              case atStart => exact ⟨(([] : List ByteArray)), (0), (by first | rfl | (simp; done) | (simp [*]; done)), H', ⟨Nat.le_refl _⟩, ⟨by (with_reducible repeat (first | apply Kd.R_alloc | apply Kd.R_drewN | apply Kd.R_drew)); exact Kd.R_mono HO_6.out (fun _ hk => (by simp [Value.ownBlock]))⟩, ⟨by first | exact Kd.R_nil _ _ _ _ _ | exact Kd.N_nil _ _ _ _ _ | exact Kd.V_nil _ _ _ _ _ | exact Kd.Q_nil _ _ _ _ _ | exact Kd.S_nil _ _ _ _ _⟩, ⟨by repeat (first | (with_reducible first | exact HB.out | apply below_alloc | apply pw_below_drewN | apply below_drew1) | exact HB.out)⟩⟩
              case round =>
                clear H'
                try clear c1
                try clear p1
                try clear q1
                try clear hx1
                try clear c2
                try clear p2
                try clear q2
                try clear hx2
                try clear c4
                try clear c4b0
                try clear c4b1
                try clear c6
                try clear c6b0
                try clear p6
                try clear c8
                try clear c8b0
                try clear c13
                try clear c13b0
                try clear c14
                try clear c14b0
                try clear p15
                try clear q15
                try clear hx15
                try clear c16
                try clear c16b0
                try clear c17
                try clear c18
                try clear p20
                try clear q20
                try clear hx20
                try clear c21
                try clear c21b0
                try clear c22
                try clear c23
                try clear p15
                try clear p2
                try clear p20
                try clear q15
                try clear q20
                obtain ⟨x9_2, x10_2, rfl, HA, HK2, HO_6, HO_9, HB⟩ := hrel
                cases gk with
                | zero => exact absurd HA.out (by simp [decklelaw20_RecordBack_t.l1])
                | succ k2 =>
                  have H := HA.out
                  clear HA
                  simp only [decklelaw20_RecordBack_t.l1] at H
                  by_cases c25 : x10_2 < (t219.length : Int)
                  · rw [if_pos c25] at H
                    have c25b0 : decide (x10_2 < (t219.length : Int)) = true := decide_eq_true c25
                    clear c25
                    by_cases c26 : 0 ≤ x10_2
                    · rw [if_pos c26] at H
                      have c26b0 : decide (0 ≤ x10_2) = true := decide_eq_true c26
                      clear c26
                      replace H := Option.bind_eq_some_iff.mp H
                      obtain ⟨⟨t224, t225, t226⟩, A270, H⟩ := H
                      try dsimp only at H
                      have A27 := Aside0.mk A270; clear A270
                      by_cases c28 : x10_2 = (wrap64 ((t219.length : Int) - 1))
                      · rw [if_pos c28] at H
                        have c28b0 : (x10_2 == (wrap64 ((t219.length : Int) - 1))) = true := beq_iff_eq.mpr c28
                        have c28b1 : (x10_2 != (wrap64 ((t219.length : Int) - 1))) = false := bne_eq_false_iff_eq.mpr c28
                        clear c28
                        by_cases c29 : t226 = true
                        · subst c29
                          rw [if_pos rfl] at H
                          by_cases c30 : t224 = 88
                          · rw [if_pos c30] at H
                            have c30b0 : (t224 == 88) = true := beq_iff_eq.mpr c30
                            have c30b1 : (t224 != 88) = false := bne_eq_false_iff_eq.mpr c30
                            clear c30
                            by_cases c31 : (t225.size : Int) = 71
                            · rw [if_pos c31] at H
                              have c31b0 : ((t225.size : Int) == 71) = true := beq_iff_eq.mpr c31
                              have c31b1 : ((t225.size : Int) != 71) = false := bne_eq_false_iff_eq.mpr c31
                              clear c31
                              by_cases c32 : ((rdOf ByteArray.empty t219 x10_2).size : Int) = 80
                              · rw [if_pos c32] at H
                                have c32b0 : (((rdOf ByteArray.empty t219 x10_2).size : Int) == 80) = true := beq_iff_eq.mpr c32
                                have c32b1 : (((rdOf ByteArray.empty t219 x10_2).size : Int) != 80) = false := bne_eq_false_iff_eq.mpr c32
                                clear c32
                                by_cases c33 : x9_2.length < 8796093022208
                                · rw [if_pos c33] at H
                                  have LMc33 := Aside0.mk c33
                                  clear c33
                                  obtain ⟨y228, hy228⟩ : ∃ y_ : List ByteArray, y_ = (x9_2 ++ [t225]) := ⟨_, rfl⟩
                                  replace H : (decklelaw20_RecordBack_t.l1 k2 a0 a1 t218 t219 t220 y228 (wrap64 (x10_2 + 1))) = some r := by first | (rw [hy228]; with_reducible exact H) | (have H2_ := (Option.bind_some _ _).symm.trans H; rw [hy228]; with_reducible exact H2_) | (have H2_ := (Option.bind_some _ _).symm.trans H; with_reducible exact H2_) | with_reducible exact H | (rw [hy228]; exact H) | exact H
                                  have Ny228 := Aside0.mk hy228
                                  clear hy228
                                  have H' := Aside0.mk H
                                  clear H
                                  obtain ⟨Ao34, co34, eo34⟩ := Kd.R_slice HO_6.out
                                  subst eo34
                                  have p223 : 0 ≤ (x10_2 : Int) := of_decide_eq_true (by first | (with_reducible assumption) | assumption)
                                  have q223 : x10_2 < (t219.length : Int) := of_decide_eq_true (by first | (with_reducible assumption) | assumption)
                                  obtain ⟨ad223, e223, hx223_0⟩ := Kd.at_string (Kd.R_reads' HO_6.out).2.2 x10_2 p223 q223
                                  cases e223
                                  replace p223 := eq_true p223
                                  replace q223 := eq_true q223
                                  go_wp2_with (first | ((with_reducible refine gate_callee (f := 12) rfl ?_); refine goesL_ (some 76) rfl rfl Tryd.func12 (by kernel_rfl) rfl #[.string (rdOf ByteArray.empty t219 x10_2), .int .i64 (wrap64 (a1 + x10_2))] rfl (by (try simp only [List.map_toArray, List.map_cons, List.map_nil]); first | done | rfl | (simp only [List.length_drop, List.length_take]; rfl)) ?_; (with_reducible refine (record_Read.calls k2 (rdOf ByteArray.empty t219 x10_2) (wrap64 (a1 + x10_2)) t224 t225 true _ ?side1 A27.out).mono ?_); (case side1 => first | exact hT | exact Tabs.below hT (by repeat (first | (with_reducible first | exact HB.out | apply below_alloc | apply pw_below_drewN | apply below_drew1) | exact HB.out)) | ((repeat (first | exact hT | apply Tabs.drewN | apply Tabs.drew)); done)); rintro e w35 ⟨rfl, hb⟩; refine ⟨_, rfl, ?_⟩; have n0_ := Aside0.mk (Kd.R_below (by (with_reducible repeat (first | apply Kd.R_alloc | apply Kd.R_drewN | apply Kd.R_drew)); exact HO_6.out) hb); have n1_ := Aside0.mk (Kd.R_below (by (with_reducible repeat (first | apply Kd.R_alloc | apply Kd.R_drewN | apply Kd.R_drew)); exact HO_9.out) hb); have n2_ := Aside0.mk (below_step (by repeat (first | (with_reducible first | exact HB.out | apply below_alloc | apply pw_below_drewN | apply below_drew1) | exact HB.out)) hb); clear HO_6; clear HO_9; clear HB; have HO_6 := n0_; have HO_9 := n1_; have HB := n2_; clear n0_ n1_ n2_; (try clear hb); (try clear hb2); (try clear hk); (try clear hi); have p227 : 0 ≤ (x10_2 : Int) := of_decide_eq_true (by first | (with_reducible assumption) | assumption); have q227 : x10_2 < (t219.length : Int) := of_decide_eq_true (by first | (with_reducible assumption) | assumption); obtain ⟨ad227, e227, hx227_0⟩ := Kd.at_string (Kd.R_reads' HO_6.out).2.2 x10_2 p227 q227; obtain rfl : ad223 = ad227 := (by injection e227); replace p227 := eq_true p227; replace q227 := eq_true q227) | ((with_reducible refine gate_builtin (b := .append) (xs := #[.tmp 105, .tmp 107]) rfl ?_); (try (refine gate_guard (by rfl) ?_; dsimp only)); at_builtin; refine Kd.R_append Kd.string (w0 := w) w.heap.size rfl (.tmp 105) (.tmp 107) 22 9 (.string ⟨#[]⟩) 16 rfl Tryd.underlying22 info9 rfl (by decide) (by omega) u9 x9_2 t225 [.string t225] (fun k_ => some k_ ≠ (.slice (some ad223) t219.length co34 : Value).ownBlock) (fun _ => False) rfl rfl ?aP (fun _ hk => hk.elim) ?aF ?aO ?aB ?aS ?aL ?_; (case aP => exact rfl); (case aB => exact (by repeat (first | (with_reducible first | exact HB.out | apply below_alloc | apply pw_below_drewN | apply below_drew1) | exact HB.out))); (case aF => exact (fun k_ hk => Kd.fresh' (Kd.R_lt (by (with_reducible repeat (first | apply Kd.R_alloc | apply Kd.R_drewN | apply Kd.R_drew)); exact HO_6.out)) k_ hk)); (case aO => exact (by (with_reducible repeat (first | apply Kd.R_alloc | apply Kd.R_drewN | apply Kd.R_drew)); exact HO_9.out)); (case aS => exact (below_size (by repeat (first | (with_reducible first | exact HB.out | apply below_alloc | apply pw_below_drewN | apply below_drew1) | exact HB.out)))); (case aL => have := LMc33.out; omega); intro v229 w36 ho hb hg hat; rw [← Ny228.out] at ho; have n0_ := Aside0.mk (Kd.R_after (ok := (fun _ => True)) (by (with_reducible repeat (first | apply Kd.R_alloc | apply Kd.R_drewN | apply Kd.R_drew)); exact Kd.R_mono HO_6.out (fun _ hk => ⟨trivial, hk⟩)) hg hat); have n1_ := Aside0.mk (hb); have n2_ := Aside0.mk (ho); clear HO_6; clear HB; clear HO_9; have HO_6 := n0_; have HB := n1_; have HO230 := n2_; clear n0_ n1_ n2_; clear ho hb hg hat))
                                  go_roundg k2
                                  case measure => have := HK1.out; have := HK2.out; omega
                                  case rel => exact ⟨(y228), (wrap64 (x10_2 + 1)), (by first | rfl | (simp; done) | (simp [*]; done)), H', ⟨by have := HK1.out; have := HK2.out; omega⟩, ⟨by (with_reducible repeat (first | apply Kd.R_alloc | apply Kd.R_drewN | apply Kd.R_drew)); exact Kd.R_mono HO_6.out (fun _ hk => hk.2)⟩, ⟨by (with_reducible repeat (first | apply Kd.R_alloc | apply Kd.R_drewN | apply Kd.R_drew)); exact HO230.out⟩, ⟨by repeat (first | (with_reducible first | exact HB.out | apply below_alloc | apply pw_below_drewN | apply below_drew1) | exact HB.out)⟩⟩
                                · rw [if_neg c33] at H
                                  exact absurd H (by simp)
                              · rw [if_neg c32] at H
                                have c32b0 : (((rdOf ByteArray.empty t219 x10_2).size : Int) == 80) = false := beq_eq_false_iff_ne.mpr c32
                                have c32b1 : (((rdOf ByteArray.empty t219 x10_2).size : Int) != 80) = true := bne_iff_ne.mpr c32
                                exact absurd (Option.some.inj H) (by rw [hr]; decide)
                            · rw [if_neg c31] at H
                              have c31b0 : ((t225.size : Int) == 71) = false := beq_eq_false_iff_ne.mpr c31
                              have c31b1 : ((t225.size : Int) != 71) = true := bne_iff_ne.mpr c31
                              exact absurd (Option.some.inj H) (by rw [hr]; decide)
                          · rw [if_neg c30] at H
                            have c30b0 : (t224 == 88) = false := beq_eq_false_iff_ne.mpr c30
                            have c30b1 : (t224 != 88) = true := bne_iff_ne.mpr c30
                            exact absurd (Option.some.inj H) (by rw [hr]; decide)
                        · replace c29 := Bool.eq_false_iff.mpr c29
                          subst c29
                          rw [if_neg (show ¬ (false = true) by decide)] at H
                          exact absurd (Option.some.inj H) (by rw [hr]; decide)
                      · rw [if_neg c28] at H
                        have c28b0 : (x10_2 == (wrap64 ((t219.length : Int) - 1))) = false := beq_eq_false_iff_ne.mpr c28
                        have c28b1 : (x10_2 != (wrap64 ((t219.length : Int) - 1))) = true := bne_iff_ne.mpr c28
                        by_cases c37 : t226 = true
                        · subst c37
                          rw [if_pos rfl] at H
                          by_cases c38 : t224 = 32
                          · rw [if_pos c38] at H
                            have c38b0 : (t224 == 32) = true := beq_iff_eq.mpr c38
                            have c38b1 : (t224 != 32) = false := bne_eq_false_iff_eq.mpr c38
                            clear c38
                            by_cases c39 : (t225.size : Int) = 71
                            · rw [if_pos c39] at H
                              have c39b0 : ((t225.size : Int) == 71) = true := beq_iff_eq.mpr c39
                              have c39b1 : ((t225.size : Int) != 71) = false := bne_eq_false_iff_eq.mpr c39
                              clear c39
                              by_cases c40 : ((rdOf ByteArray.empty t219 x10_2).size : Int) = 80
                              · rw [if_pos c40] at H
                                have c40b0 : (((rdOf ByteArray.empty t219 x10_2).size : Int) == 80) = true := beq_iff_eq.mpr c40
                                have c40b1 : (((rdOf ByteArray.empty t219 x10_2).size : Int) != 80) = false := bne_eq_false_iff_eq.mpr c40
                                clear c40
                                by_cases c41 : x9_2.length < 8796093022208
                                · rw [if_pos c41] at H
                                  have LMc41 := Aside0.mk c41
                                  clear c41
                                  obtain ⟨y232, hy232⟩ : ∃ y_ : List ByteArray, y_ = (x9_2 ++ [t225]) := ⟨_, rfl⟩
                                  replace H : (decklelaw20_RecordBack_t.l1 k2 a0 a1 t218 t219 t220 y232 (wrap64 (x10_2 + 1))) = some r := by first | (rw [hy232]; with_reducible exact H) | (have H2_ := (Option.bind_some _ _).symm.trans H; rw [hy232]; with_reducible exact H2_) | (have H2_ := (Option.bind_some _ _).symm.trans H; with_reducible exact H2_) | with_reducible exact H | (rw [hy232]; exact H) | exact H
                                  have Ny232 := Aside0.mk hy232
                                  clear hy232
                                  have H' := Aside0.mk H
                                  clear H
                                  obtain ⟨Ao42, co42, eo42⟩ := Kd.R_slice HO_6.out
                                  subst eo42
                                  have p223 : 0 ≤ (x10_2 : Int) := of_decide_eq_true (by first | (with_reducible assumption) | assumption)
                                  have q223 : x10_2 < (t219.length : Int) := of_decide_eq_true (by first | (with_reducible assumption) | assumption)
                                  obtain ⟨ad223, e223, hx223_0⟩ := Kd.at_string (Kd.R_reads' HO_6.out).2.2 x10_2 p223 q223
                                  cases e223
                                  replace p223 := eq_true p223
                                  replace q223 := eq_true q223
                                  go_wp2_with (first | ((with_reducible refine gate_callee (f := 12) rfl ?_); refine goesL_ (some 76) rfl rfl Tryd.func12 (by kernel_rfl) rfl #[.string (rdOf ByteArray.empty t219 x10_2), .int .i64 (wrap64 (a1 + x10_2))] rfl (by (try simp only [List.map_toArray, List.map_cons, List.map_nil]); first | done | rfl | (simp only [List.length_drop, List.length_take]; rfl)) ?_; (with_reducible refine (record_Read.calls k2 (rdOf ByteArray.empty t219 x10_2) (wrap64 (a1 + x10_2)) t224 t225 true _ ?side1 A27.out).mono ?_); (case side1 => first | exact hT | exact Tabs.below hT (by repeat (first | (with_reducible first | exact HB.out | apply below_alloc | apply pw_below_drewN | apply below_drew1) | exact HB.out)) | ((repeat (first | exact hT | apply Tabs.drewN | apply Tabs.drew)); done)); rintro e w43 ⟨rfl, hb⟩; refine ⟨_, rfl, ?_⟩; have n0_ := Aside0.mk (Kd.R_below (by (with_reducible repeat (first | apply Kd.R_alloc | apply Kd.R_drewN | apply Kd.R_drew)); exact HO_6.out) hb); have n1_ := Aside0.mk (Kd.R_below (by (with_reducible repeat (first | apply Kd.R_alloc | apply Kd.R_drewN | apply Kd.R_drew)); exact HO_9.out) hb); have n2_ := Aside0.mk (below_step (by repeat (first | (with_reducible first | exact HB.out | apply below_alloc | apply pw_below_drewN | apply below_drew1) | exact HB.out)) hb); clear HO_6; clear HO_9; clear HB; have HO_6 := n0_; have HO_9 := n1_; have HB := n2_; clear n0_ n1_ n2_; (try clear hb); (try clear hb2); (try clear hk); (try clear hi); have p231 : 0 ≤ (x10_2 : Int) := of_decide_eq_true (by first | (with_reducible assumption) | assumption); have q231 : x10_2 < (t219.length : Int) := of_decide_eq_true (by first | (with_reducible assumption) | assumption); obtain ⟨ad231, e231, hx231_0⟩ := Kd.at_string (Kd.R_reads' HO_6.out).2.2 x10_2 p231 q231; obtain rfl : ad223 = ad231 := (by injection e231); replace p231 := eq_true p231; replace q231 := eq_true q231) | ((with_reducible refine gate_builtin (b := .append) (xs := #[.tmp 105, .tmp 107]) rfl ?_); (try (refine gate_guard (by rfl) ?_; dsimp only)); at_builtin; refine Kd.R_append Kd.string (w0 := w) w.heap.size rfl (.tmp 105) (.tmp 107) 22 9 (.string ⟨#[]⟩) 16 rfl Tryd.underlying22 info9 rfl (by decide) (by omega) u9 x9_2 t225 [.string t225] (fun k_ => some k_ ≠ (.slice (some ad223) t219.length co42 : Value).ownBlock) (fun _ => False) rfl rfl ?aP (fun _ hk => hk.elim) ?aF ?aO ?aB ?aS ?aL ?_; (case aP => exact rfl); (case aB => exact (by repeat (first | (with_reducible first | exact HB.out | apply below_alloc | apply pw_below_drewN | apply below_drew1) | exact HB.out))); (case aF => exact (fun k_ hk => Kd.fresh' (Kd.R_lt (by (with_reducible repeat (first | apply Kd.R_alloc | apply Kd.R_drewN | apply Kd.R_drew)); exact HO_6.out)) k_ hk)); (case aO => exact (by (with_reducible repeat (first | apply Kd.R_alloc | apply Kd.R_drewN | apply Kd.R_drew)); exact HO_9.out)); (case aS => exact (below_size (by repeat (first | (with_reducible first | exact HB.out | apply below_alloc | apply pw_below_drewN | apply below_drew1) | exact HB.out)))); (case aL => have := LMc41.out; omega); intro v233 w44 ho hb hg hat; rw [← Ny232.out] at ho; have n0_ := Aside0.mk (Kd.R_after (ok := (fun _ => True)) (by (with_reducible repeat (first | apply Kd.R_alloc | apply Kd.R_drewN | apply Kd.R_drew)); exact Kd.R_mono HO_6.out (fun _ hk => ⟨trivial, hk⟩)) hg hat); have n1_ := Aside0.mk (hb); have n2_ := Aside0.mk (ho); clear HO_6; clear HB; clear HO_9; have HO_6 := n0_; have HB := n1_; have HO234 := n2_; clear n0_ n1_ n2_; clear ho hb hg hat))
                                  go_roundg k2
                                  case measure => have := HK1.out; have := HK2.out; omega
                                  case rel => exact ⟨(y232), (wrap64 (x10_2 + 1)), (by first | rfl | (simp; done) | (simp [*]; done)), H', ⟨by have := HK1.out; have := HK2.out; omega⟩, ⟨by (with_reducible repeat (first | apply Kd.R_alloc | apply Kd.R_drewN | apply Kd.R_drew)); exact Kd.R_mono HO_6.out (fun _ hk => hk.2)⟩, ⟨by (with_reducible repeat (first | apply Kd.R_alloc | apply Kd.R_drewN | apply Kd.R_drew)); exact HO234.out⟩, ⟨by repeat (first | (with_reducible first | exact HB.out | apply below_alloc | apply pw_below_drewN | apply below_drew1) | exact HB.out)⟩⟩
                                · rw [if_neg c41] at H
                                  exact absurd H (by simp)
                              · rw [if_neg c40] at H
                                have c40b0 : (((rdOf ByteArray.empty t219 x10_2).size : Int) == 80) = false := beq_eq_false_iff_ne.mpr c40
                                have c40b1 : (((rdOf ByteArray.empty t219 x10_2).size : Int) != 80) = true := bne_iff_ne.mpr c40
                                exact absurd (Option.some.inj H) (by rw [hr]; decide)
                            · rw [if_neg c39] at H
                              have c39b0 : ((t225.size : Int) == 71) = false := beq_eq_false_iff_ne.mpr c39
                              have c39b1 : ((t225.size : Int) != 71) = true := bne_iff_ne.mpr c39
                              exact absurd (Option.some.inj H) (by rw [hr]; decide)
                          · rw [if_neg c38] at H
                            have c38b0 : (t224 == 32) = false := beq_eq_false_iff_ne.mpr c38
                            have c38b1 : (t224 != 32) = true := bne_iff_ne.mpr c38
                            exact absurd (Option.some.inj H) (by rw [hr]; decide)
                        · replace c37 := Bool.eq_false_iff.mpr c37
                          subst c37
                          rw [if_neg (show ¬ (false = true) by decide)] at H
                          exact absurd (Option.some.inj H) (by rw [hr]; decide)
                    · rw [if_neg c26] at H
                      exact absurd H (by simp)
                  · rw [if_neg c25] at H
                    have c25b0 : decide (x10_2 < (t219.length : Int)) = false := decide_eq_false c25
                    clear c25
                    replace H := Option.bind_eq_some_iff.mp H
                    obtain ⟨⟨t235, t236⟩, A450, H⟩ := H
                    try dsimp only at H
                    have A45 := Aside0.mk A450; clear A450
                    by_cases c46 : t218 = true
                    · subst c46
                      rw [if_pos rfl] at H
                      by_cases c47 : t220 = true
                      · subst c47
                        rw [if_pos rfl] at H
                        by_cases c48 : t236 = true
                        · subst c48
                          rw [if_pos rfl] at H
                          by_cases c49 : t235.toList = a0.toList
                          · rw [if_pos c49] at H
                            have c49b0 : (t235.toList == a0.toList) = true := beq_iff_eq.mpr c49
                            have c49b1 : (t235.toList != a0.toList) = false := bne_eq_false_iff_eq.mpr c49
                            clear c49
                            clear hr
                            obtain rfl := Option.some.inj H
                            obtain ⟨Ao50, co50, eo50⟩ := Kd.R_slice HO_6.out
                            subst eo50
                            obtain ⟨Ao51, co51, eo51⟩ := Kd.R_slice HO_9.out
                            subst eo51
                            go_wp2_with (first | ((with_reducible refine gate_callee (f := 16) rfl ?_); refine goesL_ (some 111) rfl rfl Tryd.func16 (by kernel_rfl) rfl #[.slice Ao51 x9_2.length co51] rfl (by (try simp only [List.map_toArray, List.map_cons, List.map_nil]); first | done | rfl | (simp only [List.length_drop, List.length_take]; rfl)) ?_; (with_reducible refine (record_Get.calls _ _ x9_2 t235 true _ ?side1 ?side2 ?side3 A45.out).mono ?_); (case side1 => first | exact hT | exact Tabs.below hT (by repeat (first | (with_reducible first | exact HB.out | apply below_alloc | apply pw_below_drewN | apply below_drew1) | exact HB.out)) | ((repeat (first | exact hT | apply Tabs.drewN | apply Tabs.drew)); done)); (case side2 => repeat (first | exact (Kd.R_reads' HO_9.out).2.2 | (with_reducible refine Kd.C_alloc ?_ _) | (with_reducible refine Kd.C_drewN ?_ _) | (with_reducible refine Kd.C_drew ?_))); (case side3 => exact (Kd.R_reads' HO_9.out).2.1); rintro e w52 ⟨rfl, hb⟩; refine ⟨_, rfl, ?_⟩; have n0_ := Aside0.mk (Kd.R_below (by (with_reducible repeat (first | apply Kd.R_alloc | apply Kd.R_drewN | apply Kd.R_drew)); exact HO_6.out) hb); have n1_ := Aside0.mk (Kd.R_below (by (with_reducible repeat (first | apply Kd.R_alloc | apply Kd.R_drewN | apply Kd.R_drew)); exact HO_9.out) hb); have n2_ := Aside0.mk (below_step (by repeat (first | (with_reducible first | exact HB.out | apply below_alloc | apply pw_below_drewN | apply below_drew1) | exact HB.out)) hb); clear HO_6; clear HO_9; clear HB; have HO_6 := n0_; have HO_9 := n1_; have HB := n2_; clear n0_ n1_ n2_; (try clear hb); (try clear hb2); (try clear hk); (try clear hi)))
                            go_ret
                            exact ⟨by first | rfl | (simp [errW_none, errW_some] <;> rfl) | (simp [*, errW_none, errW_some] <;> rfl) | (simp [errW_none, errW_some, bne_nil_, beq_nil_]; done) | (simp [*, errW_none, errW_some, bne_nil_, beq_nil_]; done), by repeat (first | (with_reducible first | exact HB.out | apply below_alloc | apply pw_below_drewN | apply below_drew1) | exact HB.out)⟩
                          · rw [if_neg c49] at H
                            have c49b0 : (t235.toList == a0.toList) = false := beq_eq_false_iff_ne.mpr c49
                            have c49b1 : (t235.toList != a0.toList) = true := bne_iff_ne.mpr c49
                            exact absurd (Option.some.inj H) (by rw [hr]; decide)
                        · replace c48 := Bool.eq_false_iff.mpr c48
                          subst c48
                          rw [if_neg (show ¬ (false = true) by decide)] at H
                          exact absurd (Option.some.inj H) (by rw [hr]; decide)
                      · replace c47 := Bool.eq_false_iff.mpr c47
                        subst c47
                        rw [if_neg (show ¬ (false = true) by decide)] at H
                        exact absurd (Option.some.inj H) (by rw [hr]; decide)
                    · replace c46 := Bool.eq_false_iff.mpr c46
                      subst c46
                      rw [if_neg (show ¬ (false = true) by decide)] at H
                      exact absurd (Option.some.inj H) (by rw [hr]; decide)

end Go.Proofs.YtempfafkfkcelaaDoor.All
