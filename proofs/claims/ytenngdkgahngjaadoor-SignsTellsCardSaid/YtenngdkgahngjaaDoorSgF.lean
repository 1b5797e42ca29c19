/- Walks through the code of signs, by hand. -/
import Derived.Test.YtenngdkgahngjaaDoorGTabs
import Derived.Test.YtenngdkgahngjaaDoorWMore
import Derived.Lib.OthersKept
import Derived.WalkKit
import Derived.BigCall
import Derived.KernelRfl
import Derived.Below
import Derived.Test.YtenngdkgahngjaaDoorGShelf
import Derived.Lib.TrimU
import Derived.Laws.Slices
import Derived.Laws.Cover4
import Derived.Laws.BitsAllLaws
import Derived.Laws.BytesArg
import Derived.Lib.LazyBuf
import Derived.Lib.IfaceEq
import Derived.Test.YtenngdkgahngjaaDoorSgT
namespace Go.Proofs.YtenngdkgahngjaaDoor.All
open Go.RowKit Go.Proofs.YtenngdkgahngjaaDoorW.PrintWords Go.Proofs.YtenngdkgahngjaaDoorW.PrintLast Go.Proofs.YtenngdkgahngjaaDoorW.PrintMore Go.Proofs.YtenngdkgahngjaaDoor.G
set_option linter.unusedVariables false
set_option linter.unusedSimpArgs false
set_option maxHeartbeats 4000000
set_option maxRecDepth 1000000
theorem hexD_small {u : Nat} (h : u < 16) : hexD u = [hexDig u] := by rw [hexD, dif_pos h]
theorem hexD_big {u : Nat} (h : ¬ u < 16) : hexD u = hexD (u / 16) ++ [hexDig (u % 16)] := by rw [hexD, dif_neg h]
theorem hexD_len : ∀ (k u : Nat), 1 ≤ k → u < 16 ^ k → 1 ≤ (hexD u).length ∧ (hexD u).length ≤ k := by
  intro k
  induction k with
  | zero => intro u h; omega
  | succ k ih =>
    intro u _ h
    by_cases h1 : u < 16
    · rw [hexD_small h1]
      simp
    · rw [hexD_big h1, List.length_append]
      rw [Nat.pow_succ] at h
      have hk : 1 ≤ k := by
        rcases Nat.eq_zero_or_pos k with rfl | h2
        · simp at h; omega
        · exact h2
      have := ih (u / 16) hk (by omega)
      simp
      omega
theorem hex_at : ∀ d : Fin 16, ∀ h : d.val < (⟨#[48, 49, 50, 51, 52, 53, 54, 55, 56, 57, 97, 98, 99, 100, 101, 102, 103, 104, 105, 106, 107, 108, 109, 110, 111, 112, 113, 114, 115, 116, 117, 118, 119, 120, 121, 122]⟩ : ByteArray).size, (((⟨#[48, 49, 50, 51, 52, 53, 54, 55, 56, 57, 97, 98, 99, 100, 101, 102, 103, 104, 105, 106, 107, 108, 109, 110, 111, 112, 113, 114, 115, 116, 117, 118, 119, 120, 121, 122]⟩ : ByteArray)[d.val]'h).toNat : Int) = ((hexDig d.val).toNat : Int) := by decide +kernel
theorem and15 (a : Nat) (h : a < 18446744073709551616) : bits .and .u64 (a : Int) 15 = ((a % 16 : Nat) : Int) := by
  have := u64_and_nat a 15 h (by decide)
  rw [show (15 : Nat) = 2 ^ 4 - 1 from rfl, Nat.and_two_pow_sub_one_eq_mod] at this
  exact this
theorem drop_set (l : List UInt8) (i : Nat) (x : UInt8) (h : i < l.length) : (l.set i x).drop i = x :: l.drop (i + 1) := by
  rw [List.drop_eq_getElem_cons (by rw [List.length_set]; exact h), List.getElem_set_self, List.drop_set_of_lt (by omega)]
theorem zeros65 : Tryd.zeroCells102 = (List.replicate 65 (Value.int .u8 0)).toArray := by kernel_rfl
theorem byts_zero (w : World) : Byts (w.alloc (.cells Tryd.zeroCells102 102)) w.heap.size (List.replicate 65 0) := by
  have hh : (w.alloc (.cells Tryd.zeroCells102 102)).heap[w.heap.size]? = some (.cells Tryd.zeroCells102 102) := by simp [World.alloc, -World.alloc_eq]
  refine ⟨fun j hj => ?_, fun j hj => ?_⟩
  · rw [List.length_replicate] at hj
    have h1 : Tryd.zeroCells102[j]? = some (.int .u8 0) := by
      rw [zeros65, List.getElem?_toArray, List.getElem?_replicate, if_pos hj]
    unfold World.cell?
    rw [hh]
    simp only
    rw [h1, List.getElem?_replicate, if_pos hj]
    rfl
  · rw [List.length_replicate] at hj
    unfold World.frozen?
    rw [hh]
    simp
theorem slice_arr (W : World) (g j : Nat) (h : j < 65) : (Instr.sliceAt 102 (Value.pointer (some ⟨g, 0, none⟩)) (some (Value.int IntKind.i64 (j : Int))) none none).run Tryd.prog W = .ok (.slice (some ⟨g, j, none⟩) (65 - j) (65 - j)) W := by
  have h3 : Tryd.prog.arrayLen 102 = 65 := by kernel_rfl
  have h1 := run_sliceAt_array_l (P := Tryd.prog) W 102 ⟨g, 0, none⟩ (by kernel_rfl) .i64 (j : Int) (by omega) (by rw [h3]; omega)
  have h2 : (sizeOf (Tryd.prog.elem 102)).run Tryd.prog W = .ok 1 W := by kernel_rfl
  rw [h1, h2, h3]
  have h4 : ¬ (65 = j) := by omega
  simp [Result.andThen, slicedAt, h4, Addr.add]
  intro h0
  omega
theorem conv_from (W : World) (g j : Nat) (l d : List UInt8) (h : j < 65) (hl : l.length = 65) (hB : Byts W g l) (hd : l.drop j = d) : (convert 27 9 (.slice (some ⟨g, j, none⟩) (65 - j) (65 - j))).run Tryd.prog W = .ok (.string ⟨d.toArray⟩) W := by
  subst hd
  rw [← Lib.Lz.strOfNums_map]
  exact run_convert_bytes_arg (P := Tryd.prog) W 27 5 Tryd.underlying27 Tryd.underlying5 g j (65 - j) (65 - j) _ (by rw [List.length_map, List.length_drop, hl]) (fun i hi => by
    rw [hB.cell (j + i) (by omega), Lib.Lz.getD_map]
    rw [List.getElem?_drop]) 9 Tryd.underlying9
theorem tz16 (W : World) (ht : W.cell? ⟨8, 15, none⟩ = some (.int .u8 4)) : Calls Tryd.prog 78 #[.int .u64 16] W fun e w' => e = .returned (.int .i64 4) ∧ w' = W := by
  have e1 : bits BinOp.and IntKind.u64 16 (IntKind.u64.wrap (-16)) = 16 := by decide
  have e2 : IntKind.u64.wrap (16 * 285870213051353865) / 288230376151711744 = 15 := by decide
  have e3 : (IntKind.u64.wrap (16 * 285870213051353865) / 288230376151711744).toNat = 15 := by decide
  go_enter Tryd.func78, Tryd.ntmps78
  go_wp2_with go_in
  go_ret
  exact ⟨rfl, rfl⟩
set_option maxHeartbeats 4000000 in
set_option maxRecDepth 1000000 in
theorem formatBits_walk (u0 : Nat) (hu : u0 < 18446744073709551616) (w : World) (htz : w.cell? ⟨8, 15, none⟩ = some (.int .u8 4)) :
    Calls Tryd.prog 60 #[.slice none 0 0, .int .u64 (u0 : Int), .int .i64 16, .bool false, .bool false] w fun e w' => e = .returned (.tuple #[.slice none 0 0, .string ⟨(hexD u0).toArray⟩]) ∧ Below w.heap.size w w' := by
  have C1 : ∀ W, Below w.heap.size w W → _ := fun W hb => tz16 W ((hb.cell (p := ⟨8, 15, none⟩) (World.block_lt_of_cell? w _ htz)).trans htz)
  have hL := hexD_len 16 u0 (by decide) (by have : (16 : Nat) ^ 16 = 18446744073709551616 := by decide
                                            omega)
  go_enter Tryd.func60, Tryd.ntmps60
  go_wp2_with (first | (go_at_call 78; (with_reducible refine (C1 _ ((Below.refl _ w).alloc (Nat.le_refl _) _)).mono ?_); rintro e w' ⟨rfl, rfl⟩) | go_in)
  go_loopw [1, 13] (fun v1 v13 wr => ∃ (u i : Nat) (l : List UInt8), v1 = .int .u64 (u : Int) ∧ v13 = .int .i64 (i : Int) ∧ l.length = 65 ∧ i ≤ 65 ∧ u < 18446744073709551616 ∧ Byts wr w.heap.size l ∧ hexD u ++ l.drop i = hexD u0 ∧ Below w.heap.size w wr) (fun v1 _ _ => match v1 with | .int _ n => n.toNat | _ => 0)
  case atStart => exact ⟨u0, 65, List.replicate 65 0, rfl, rfl, by simp, by omega, hu, byts_zero w, by simp, (Below.refl _ w).alloc (Nat.le_refl _) _⟩
  case round =>
    obtain ⟨u, i, l, rfl, rfl, hl, hi, hu1, hB, hacc, hbw⟩ := hrel
    have hlen := congrArg List.length hacc
    rw [List.length_append, List.length_drop, hl] at hlen
    have hL2 := hexD_len 16 u (by decide) (by have : (16 : Nat) ^ 16 = 18446744073709551616 := by decide
                                              omega)
    obtain ⟨j, rfl⟩ : ∃ j, i = j + 1 := ⟨i - 1, by omega⟩
    have e1 : IntKind.i64.wrap (((j + 1 : Nat) : Int) - 1) = (j : Int) := by
      simp only [IntKind.wrap, IntKind.signed, IntKind.bits]
      simp
      omega
    have hj1 : (j : Int) < 65 := by omega
    have hc := hB.cell j (by omega)
    have hf := hB.frozen j (by omega)
    by_cases h16 : u < 16
    · have hg : decide ((u : Int) ≥ 16) = false := decide_eq_false (by omega)
      have hg2 : decide (16 ≤ (u : Int)) = false := decide_eq_false (by omega)
      have hx := hex_at ⟨u, h16⟩
      simp only at hx
      have hB2 := hB.set j (hexDig u)
      have hd : (l.set j (hexDig u)).drop j = hexD u0 := by
        rw [drop_set l j _ (by omega), ← hacc, hexD_small h16]
        rfl
      have hs := slice_arr (wr.setCell ⟨w.heap.size, j, none⟩ (Value.int IntKind.u8 ((hexDig u).toNat : Int))) w.heap.size j (by omega)
      have hv := conv_from (wr.setCell ⟨w.heap.size, j, none⟩ (Value.int IntKind.u8 ((hexDig u).toNat : Int))) w.heap.size j _ _ (by omega) (by rw [List.length_set]; exact hl) hB2 hd
      go_wp2
      go_ret2
      exact ⟨rfl, hbw.setCell (Nat.le_refl _) _⟩
    · have hg : decide ((u : Int) ≥ 16) = true := decide_eq_true (by omega)
      have hg2 : decide (16 ≤ (u : Int)) = true := decide_eq_true (by omega)
      have ha := and15 u hu1
      have hx := hex_at ⟨u % 16, Nat.mod_lt _ (by decide)⟩
      simp only at hx
      go_wp2
      go_roundw
      case rel => exact ⟨u / 16, j, l.set j (hexDig (u % 16)), by simp, rfl, by rw [List.length_set]; exact hl, by omega, by omega, hB.set j (hexDig (u % 16)), by rw [drop_set l j _ (by omega), ← hacc, hexD_big h16, List.append_assoc]; rfl, hbw.setCell (Nat.le_refl _) _⟩
      case measure =>
        simp only
        omega
set_option maxHeartbeats 4000000 in
set_option maxRecDepth 1000000 in
theorem formatInt_walk (n : Nat) (hn : n ≤ 9223372036854775807) (w : World) (htz : w.cell? ⟨8, 15, none⟩ = some (.int .u8 4)) :
    Calls Tryd.prog 30 #[.int .i64 (n : Int), .int .i64 16] w fun e w' => e = .returned (.string ⟨(hexD n).toArray⟩) ∧ Below w.heap.size w w' := by
  have C1 := formatBits_walk n (by omega) w htz
  have h0 : decide ((n : Int) < 0) = false := decide_eq_false (by omega)
  have hw : IntKind.u64.wrap (n : Int) = (n : Int) := by
    simp only [IntKind.wrap, IntKind.signed, IntKind.bits]
    simp
    omega
  generalize hexD n = L at C1 ⊢
  go_enter Tryd.func30, Tryd.ntmps30
  go_wp2_with (first | (go_at_call 60; (with_reducible refine C1.mono ?_); rintro e w' ⟨rfl, hb⟩) | go_in)
  go_ret
  exact ⟨rfl, hb⟩
end Go.Proofs.YtenngdkgahngjaaDoor.All
