/- Walks through the code of signs, by hand. -/
import Derived.Test.YtenngdkgahngjaaDoorGTabs
import Derived.Test.YtenngdkgahngjaaDoorWMore
import Derived.Lib.OthersKept
import Derived.WalkKit
import Derived.BigCall
import Derived.KernelRfl
import Derived.Below
import Derived.Test.YtenngdkgahngjaaDoorGShelf
import Derived.Lib.TrimU
import Derived.Laws.Slices
import Derived.Laws.Cover4
import Derived.Laws.BitsAllLaws
import Derived.Laws.BytesArg
import Derived.Lib.LazyBuf
import Derived.Lib.IfaceEq
import Derived.Test.YtenngdkgahngjaaDoorSgT
namespace Go.Proofs.YtenngdkgahngjaaDoor.All
open Go.RowKit Go.Proofs.YtenngdkgahngjaaDoorW.PrintWords Go.Proofs.YtenngdkgahngjaaDoorW.PrintLast Go.Proofs.YtenngdkgahngjaaDoorW.PrintMore Go.Proofs.YtenngdkgahngjaaDoor.G
set_option linter.unusedVariables false
set_option linter.unusedSimpArgs false
set_option maxHeartbeats 4000000
set_option maxRecDepth 1000000
/-- What stands for a sign: looked up in two rows. -/
def lookup (c : Int) : List Nat → List Nat → Int
  | x :: xs, y :: ys => if (x : Int) = c then (y : Int) else lookup c xs ys
  | _, _ => 0
theorem lookup_step (c : Int) (k : Nat) (h : k < 43) : lookup c (farR.drop k) (nearL.drop k) = if (farR.getD k 0 : Int) = c then (nearL.getD k 0 : Int) else lookup c (farR.drop (k + 1)) (nearL.drop (k + 1)) := by
  have h1 : k < farR.length := h
  have h2 : k < nearL.length := h
  rw [List.drop_eq_getElem_cons h1, List.drop_eq_getElem_cons h2, lookup, List.getD_eq_getElem?_getD, List.getD_eq_getElem?_getD, List.getElem?_eq_getElem h1, List.getElem?_eq_getElem h2]
  rfl
set_option maxHeartbeats 4000000 in
set_option maxRecDepth 1000000 in
theorem short_walk (c : Int) (w : World) :
    Calls Tryd.prog 28 #[.int .i32 c] w fun e w' => e = .returned (.int .u8 (lookup c farR nearL)) ∧ Below w.heap.size w w' := by
  go_enter Tryd.func28, Tryd.ntmps28
  go_wp2
  go_loopw [3] (fun v3 wr => ∃ (k : Nat), v3 = .int .i64 (k : Int) ∧ k ≤ 43 ∧ wr.heap[w.heap.size]? = some (.stringIter farB (farO.getD k 0)) ∧ Below w.heap.size w wr ∧ lookup c (farR.drop k) (nearL.drop k) = lookup c farR nearL) (fun _ wr => 125 - wr.iterPos w.heap.size)
  case atStart =>
    refine ⟨0, rfl, by omega, ?_, ((Below.refl _ w).alloc (Nat.le_refl _) _), rfl⟩
    have := World.iter_heap w farB 0
    exact this
  case round =>
    obtain ⟨k, rfl, hk, hit, hbw, hacc⟩ := hrel
    have hsz : w.heap.size < wr.heap.size := (Array.getElem?_eq_some_iff.1 hit).1
    by_cases hp : k < 43
    · obtain ⟨hdec, hlt, hle⟩ := far_step ⟨k, hp⟩
      simp only at hdec hlt hle
      have hnx : ∀ ty, (Instr.next (.pointer (some ⟨w.heap.size, 0, none⟩)) true ty).run Tryd.prog wr = _ := fun ty => Lib.run_next_any_at wr w.heap.size farB (farO.getD k 0) ty hit (by rw [far_size]; exact hle)
      rw [hdec] at hnx
      have hit2 := Lib.iterAt_heap wr w.heap.size farB (farO.getD k 0) (farO.getD (k + 1) 0) hit
      have hbw2 := Lib.below_iterAt hbw (k := w.heap.size) (Nat.le_refl _) farB (farO.getD (k + 1) 0)
      have e1 : farO.getD k 0 + (farO.getD (k + 1) 0 - farO.getD k 0) = farO.getD (k + 1) 0 := by omega
      rw [e1] at hnx
      have hstep := lookup_step c k hp
      generalize farR.getD k 0 = x at hnx hstep
      obtain ⟨q, hq⟩ : ∃ q, q = farO.getD (k + 1) 0 := ⟨_, rfl⟩
      rw [← hq] at hlt hnx hit2 hbw2
      have hq2 := Aside0.mk hq
      clear hq
      by_cases hc : (x : Int) = c
      · have hb : ((x : Int) == c) = true := beq_iff_eq.2 hc
        have hk2 : (k : Int) < 43 := by omega
        go_wp2
        go_ret
        refine ⟨?_, hbw2⟩
        have hv := near_at ⟨k, hp⟩
        rw [← hacc, hstep, if_pos hc, ← hv (by show k < 43; omega)]
        rfl
      · have hb : ((x : Int) == c) = false := beq_eq_false_iff_ne.2 hc
        go_wp2
        go_roundw
        case rel => exact ⟨k + 1, by simp, by omega, by rw [← hq2.out]; exact hit2, hbw2, by rw [← hacc, hstep, if_neg hc]⟩
        case measure =>
          simp only [World.iterPos, hit2, hit]
          omega
    · obtain rfl : k = 43 := by omega
      have hnx : ∀ ty, (Instr.next (.pointer (some ⟨w.heap.size, 0, none⟩)) true ty).run Tryd.prog wr = _ := fun ty => Lib.run_next_end_at wr w.heap.size farB (farO.getD 43 0) ty hit (by rw [far_size, far_end]; omega)
      go_wp2
      go_ret
      refine ⟨?_, hbw⟩
      rw [← hacc]
      rfl
/-- The sign for which something stands. -/
def lookdn (c : Int) : List Nat → List Nat → Int
  | x :: xs, y :: ys => if (y : Int) = c then (x : Int) else lookdn c xs ys
  | _, _ => 0
theorem lookdn_step (c : Int) (k : Nat) (h : k < 43) : lookdn c (farR.drop k) (nearL.drop k) = if (nearL.getD k 0 : Int) = c then (farR.getD k 0 : Int) else lookdn c (farR.drop (k + 1)) (nearL.drop (k + 1)) := by
  have h1 : k < farR.length := h
  have h2 : k < nearL.length := h
  rw [List.drop_eq_getElem_cons h1, List.drop_eq_getElem_cons h2, lookdn, List.getD_eq_getElem?_getD, List.getD_eq_getElem?_getD, List.getElem?_eq_getElem h1, List.getElem?_eq_getElem h2]
  rfl
set_option maxHeartbeats 4000000 in
set_option maxRecDepth 1000000 in
theorem long_walk (c : Int) (w : World) :
    Calls Tryd.prog 35 #[.int .u8 c] w fun e w' => e = .returned (.int .i32 (lookdn c farR nearL)) ∧ Below w.heap.size w w' := by
  go_enter Tryd.func35, Tryd.ntmps35
  go_wp2
  go_loopw [3] (fun v3 wr => ∃ (k : Nat), v3 = .int .i64 (k : Int) ∧ k ≤ 43 ∧ wr.heap[w.heap.size]? = some (.stringIter farB (farO.getD k 0)) ∧ Below w.heap.size w wr ∧ lookdn c (farR.drop k) (nearL.drop k) = lookdn c farR nearL) (fun _ wr => 125 - wr.iterPos w.heap.size)
  case atStart =>
    refine ⟨0, rfl, by omega, ?_, ((Below.refl _ w).alloc (Nat.le_refl _) _), rfl⟩
    have := World.iter_heap w farB 0
    exact this
  case round =>
    obtain ⟨k, rfl, hk, hit, hbw, hacc⟩ := hrel
    have hsz : w.heap.size < wr.heap.size := (Array.getElem?_eq_some_iff.1 hit).1
    by_cases hp : k < 43
    · obtain ⟨hdec, hlt, hle⟩ := far_step ⟨k, hp⟩
      simp only at hdec hlt hle
      have hnx : ∀ ty, (Instr.next (.pointer (some ⟨w.heap.size, 0, none⟩)) true ty).run Tryd.prog wr = _ := fun ty => Lib.run_next_any_at wr w.heap.size farB (farO.getD k 0) ty hit (by rw [far_size]; exact hle)
      rw [hdec] at hnx
      have hit2 := Lib.iterAt_heap wr w.heap.size farB (farO.getD k 0) (farO.getD (k + 1) 0) hit
      have hbw2 := Lib.below_iterAt hbw (k := w.heap.size) (Nat.le_refl _) farB (farO.getD (k + 1) 0)
      have e1 : farO.getD k 0 + (farO.getD (k + 1) 0 - farO.getD k 0) = farO.getD (k + 1) 0 := by omega
      rw [e1] at hnx
      have hstep := lookdn_step c k hp
      have hv := near_at ⟨k, hp⟩
      simp only at hv
      generalize farR.getD k 0 = x at hnx hstep
      have hx := fun h : k < (⟨#[108, 114, 112, 105, 119, 97, 103, 116, 84, 113, 81, 45, 120, 47, 60, 62, 61, 94, 118, 101, 117, 100, 111, 79, 42, 102, 121, 99, 67, 110, 85, 71, 72, 88, 70, 68, 86, 65, 98, 66, 59, 35, 58]⟩ : ByteArray).size => (congrArg (fun n : Nat => (n : Int)) (hv h) : (((⟨#[108, 114, 112, 105, 119, 97, 103, 116, 84, 113, 81, 45, 120, 47, 60, 62, 61, 94, 118, 101, 117, 100, 111, 79, 42, 102, 121, 99, 67, 110, 85, 71, 72, 88, 70, 68, 86, 65, 98, 66, 59, 35, 58]⟩ : ByteArray)[k]'h).toNat : Int) = ((nearL.getD k 0 : Nat) : Int))
      generalize nearL.getD k 0 = y at hstep hx
      clear hv
      have hk2 : (k : Int) < 43 := by omega
      obtain ⟨q, hq⟩ : ∃ q, q = farO.getD (k + 1) 0 := ⟨_, rfl⟩
      rw [← hq] at hlt hnx hit2 hbw2
      have hq2 := Aside0.mk hq
      clear hq
      by_cases hc : (y : Int) = c
      · have hb : ((y : Int) == c) = true := beq_iff_eq.2 hc
        have hk2 : (k : Int) < 43 := by omega
        go_wp2
        go_ret
        refine ⟨?_, hbw2⟩
        rw [← hacc, hstep, if_pos hc]
        rfl
      · have hb : ((y : Int) == c) = false := beq_eq_false_iff_ne.2 hc
        go_wp2
        go_roundw
        case rel => exact ⟨k + 1, by simp, by omega, by rw [← hq2.out]; exact hit2, hbw2, by rw [← hacc, hstep, if_neg hc]⟩
        case measure =>
          simp only [World.iterPos, hit2, hit]
          omega
    · obtain rfl : k = 43 := by omega
      have hnx : ∀ ty, (Instr.next (.pointer (some ⟨w.heap.size, 0, none⟩)) true ty).run Tryd.prog wr = _ := fun ty => Lib.run_next_end_at wr w.heap.size farB (farO.getD 43 0) ty hit (by rw [far_size, far_end]; omega)
      go_wp2
      go_ret
      refine ⟨?_, hbw⟩
      rw [← hacc]
      rfl
end Go.Proofs.YtenngdkgahngjaaDoor.All
