/- Walks through the code of signs, by hand. -/
import Derived.Test.YtenngdkgahngjaaDoorGTabs
import Derived.Test.YtenngdkgahngjaaDoorWMore
import Derived.Lib.OthersKept
import Derived.WalkKit
import Derived.BigCall
import Derived.KernelRfl
import Derived.Below
import Derived.Test.YtenngdkgahngjaaDoorGShelf
import Derived.Lib.TrimU
import Derived.Laws.Slices
import Derived.Laws.Cover4
import Derived.Laws.BitsAllLaws
import Derived.Laws.BytesArg
import Derived.Lib.LazyBuf
import Derived.Lib.IfaceEq
import Derived.Test.YtenngdkgahngjaaDoorSgT
namespace Go.Proofs.YtenngdkgahngjaaDoor.All
open Go.RowKit Go.Proofs.YtenngdkgahngjaaDoorW.PrintWords Go.Proofs.YtenngdkgahngjaaDoorW.PrintLast Go.Proofs.YtenngdkgahngjaaDoorW.PrintMore Go.Proofs.YtenngdkgahngjaaDoor.G
set_option linter.unusedVariables false
set_option linter.unusedSimpArgs false
set_option maxHeartbeats 4000000
set_option maxRecDepth 1000000
theorem Byts.below {w w1 : World} {b : Nat} {l : List UInt8} (h : Byts w b l) (hb : Below w.heap.size w w1) (hl : b < w.heap.size) : Byts w1 b l :=
  ⟨fun j hj => (hb.cell (p := ⟨b, j, none⟩) hl).trans (h.cell j hj), fun j hj => (hb.frozen (p := ⟨b, j, none⟩) hl).trans (h.frozen j hj)⟩
theorem Byts.lt {w : World} {b : Nat} {l : List UInt8} (h : Byts w b l) (h0 : 0 < l.length) : b < w.heap.size := World.block_lt_of_cell? w _ (h.cell 0 h0)
theorem byts_world (w : World) (e : TypeId) (s : ByteArray) : Byts (Lib.bytesWorld w e s) w.heap.size s.data.toList := by
  refine ⟨fun j hj => ?_, fun j hj => ?_⟩
  · rw [Lib.bytesWorld_cell w e s j (by rw [Lib.size_eq]; exact hj), List.getD_eq_getElem?_getD]
  · unfold World.frozen?
    rw [Lib.bytesWorld_at_new]
    have hz : s.data.toList.length ≤ (Lib.bytesCells w e s).size := by simp [Lib.bytesCells]
    simp
    omega
theorem convert_byts {P : Program} (W : World) (src dst e : TypeId) (z : ByteArray) (hs : P.underlying src = some .string) (hd : P.underlying dst = some (.slice e)) (he : P.underlying e = some (.int .u8)) :
    ∃ cp W1, z.size ≤ cp ∧ Byts W1 W.heap.size z.data.toList ∧ Below W.heap.size W W1 ∧ (convert src dst (.string z)).run P W = .ok (.slice (some ⟨W.heap.size, 0, none⟩) z.size cp) W1 :=
  ⟨_, _, grownCap_ge .., byts_world W e z, Lib.bytesWorld_below W e z, Lib.run_convert_string_bytes (P := P) W src dst e z (u := .string) hs hd he⟩
/-- A byte with its bit of 32 set. -/
def lowN (k : Nat) : Nat := (bits .or .u8 (k : Int) 32).toNat
theorem lowN_eq : ∀ k : Fin 256, bits .or .u8 (k.val : Int) 32 = (lowN k.val : Int) ∧ lowN k.val < 256 ∧ (97 ≤ lowN k.val → lowN k.val ≤ 122 → 57 < k.val ∧ k.val ≠ 95) := by decide +kernel
/-- The value of a digit of base 16. -/
def digit16 (k : Nat) : Option Nat := if 48 ≤ k ∧ k ≤ 57 then some (k - 48) else if 97 ≤ lowN k ∧ lowN k ≤ 102 then some (lowN k - 87) else none
/-- Digits read: the value, and 0; or what there is where it is wrong, and the error's number. -/
def pU : List UInt8 → Nat → Nat × Nat
  | [], n => (n, 0)
  | c :: l, n => match digit16 c.toNat with
    | none => (0, 2)
    | some d => if 4294967295 < 16 * n + d then (4294967295, 1) else pU l (16 * n + d)
def errU (k : Nat) : Value := if k = 0 then .nilIface else .iface 90 (.int .i64 (k : Int))
set_option maxHeartbeats 8000000 in
set_option maxRecDepth 1000000 in
theorem parseUint_walk (s : ByteArray) (hne : s.data.toList ≠ []) (hs : s.size ≤ 1000000000) (w : World) :
    Calls Tryd.prog 66 #[.string s, .int .i64 16, .int .i64 32] w fun e w' => e = .returned (.tuple #[.int .u64 ((pU s.data.toList 0).1 : Int), errU (pU s.data.toList 0).2]) ∧ Below w.heap.size w w' := by
  have hn : (s.toList == ([] : List UInt8)) = false := beq_eq_false_iff_ne.2 (by rw [Lib.toList_data]; exact hne)
  obtain ⟨cp, W1, hcp, hB, hb, hcv⟩ := convert_byts (P := Tryd.prog) w 9 27 5 s Tryd.underlying9 Tryd.underlying27 Tryd.underlying5
  have hz : s.data.toList.length = s.size := (Lib.size_eq s).symm
  generalize s.data.toList = L at hB hz hne ⊢
  have hlt := hB.lt (by cases L with
    | nil => exact absurd rfl hne
    | cons _ _ => simp)
  go_enter Tryd.func66, Tryd.ntmps66
  go_wp2_with go_in
  go_loopw [12, 13, 101] (fun v12 v13 v101 wr => ∃ (n i : Nat), v12 = .bool false ∧ v13 = .int .u64 (n : Int) ∧ v101 = .int .i64 (i : Int) ∧ i ≤ L.length ∧ n ≤ 4294967295 ∧ pU (L.drop i) n = pU L 0 ∧ wr = W1) (fun _ _ v101 _ => match v101 with | .int _ z => (s.size - z).toNat | _ => 0)
  case atStart => exact ⟨0, 0, rfl, rfl, rfl, Nat.zero_le _, Nat.zero_le _, rfl, rfl⟩
  case round =>
    obtain ⟨n, i, rfl, rfl, rfl, hi, hnn, hacc, rfl⟩ := hrel
    by_cases hil : i < L.length
    · have hg : decide ((i : Int) < (s.size : Int)) = true := decide_eq_true (by omega)
      have hg2 : decide (i < s.size) = true := decide_eq_true (by omega)
      have hdr := List.drop_eq_getElem_cons hil
      have hc := hB.cell i hil
      rw [List.getElem?_eq_getElem hil] at hc
      simp only [Option.getD_some] at hc
      rw [hdr] at hacc
      generalize L[i] = c at hc hacc
      have hcn : c.toNat < 256 := c.toNat_lt
      obtain ⟨hlow, hlw, hlx⟩ := lowN_eq ⟨c.toNat, hcn⟩
      simp only at hlow hlw hlx
      have hcut : decide ((n : Int) ≥ 1152921504606846976) = false := decide_eq_false (by omega)
      have hcut2 : decide (1152921504606846976 ≤ (n : Int)) = false := decide_eq_false (by omega)
      generalize hN : c.toNat = N at hc hlow hlw hlx hcn
      rw [pU] at hacc
      unfold digit16 at hacc
      rw [hN] at hacc
      have h127 : N = 95 → lowN N = 127 := fun k => by subst k; decide +kernel
      generalize lowN N = X at hlow hlw hlx hacc h127
      by_cases hA : 48 ≤ N ∧ N ≤ 57
      · have h48 : decide (48 ≤ (N : Int)) = true := decide_eq_true (by omega)
        have h57 : decide ((N : Int) ≤ 57) = true := decide_eq_true (by omega)
        have hne95 : ((N : Int) == 95) = false := beq_eq_false_iff_ne.2 (by omega)
        have hsub : IntKind.u8.wrap ((N : Int) - 48) = ((N - 48 : Nat) : Int) := by simp only [IntKind.wrap, IntKind.signed, IntKind.bits]; simp; omega
        rw [if_pos hA] at hacc
        simp only at hacc
        clear hlow hlx h127
        have w1 : IntKind.u64.wrap ((n : Int) * 16) = ((16 * n : Nat) : Int) := by simp only [IntKind.wrap, IntKind.signed, IntKind.bits]; simp; omega
        have w2 : IntKind.u64.wrap (((N - 48) : Nat) : Int) = (((N - 48) : Nat) : Int) := by simp only [IntKind.wrap, IntKind.signed, IntKind.bits]; simp; omega
        have w3 : IntKind.u64.wrap (((16 * n : Nat) : Int) + (((N - 48) : Nat) : Int)) = ((16 * n + (N - 48) : Nat) : Int) := by simp only [IntKind.wrap, IntKind.signed, IntKind.bits]; simp; omega
        have w4 : decide (((16 * n + (N - 48) : Nat) : Int) < ((16 * n : Nat) : Int)) = false := decide_eq_false (by omega)
        have w5 : decide ((((N - 48) : Nat) : Int) ≥ 16) = false := decide_eq_false (by omega)
        have w6 : decide (16 ≤ (((N - 48) : Nat) : Int)) = false := decide_eq_false (by omega)
        generalize hD : (N - 48) = d at *
        generalize hM : 16 * n = m at *
        generalize hQ : m + d = q at *
        by_cases hov : 4294967295 < q
        · have w7 : decide (((q : Nat) : Int) > 4294967295) = true := decide_eq_true (by omega)
          have w8 : decide (4294967295 < ((q : Nat) : Int)) = true := decide_eq_true (by omega)
          rw [if_pos hov] at hacc
          go_wp2_with go_in
          go_ret2
          rw [← hacc]
          exact ⟨rfl, hb⟩
        · have w7 : decide (((q : Nat) : Int) > 4294967295) = false := decide_eq_false (by omega)
          have w8 : decide (4294967295 < ((q : Nat) : Int)) = false := decide_eq_false (by omega)
          have w9 : IntKind.i64.wrap ((i : Int) + 1) = ((i + 1 : Nat) : Int) := by simp only [IntKind.wrap, IntKind.signed, IntKind.bits]; simp; omega
          rw [if_neg hov] at hacc
          go_wp2_with go_in
          go_roundw
          case rel => exact ⟨q, i + 1, rfl, rfl, by simp, by omega, by omega, hacc, by first | rfl | trivial⟩
          case measure =>
            simp only
            omega
      · rw [if_neg hA] at hacc
        by_cases hB2 : 97 ≤ X ∧ X ≤ 122
        · obtain ⟨hN57, hN95⟩ := hlx hB2.1 hB2.2
          clear hlx h127
          have hne95 : ((N : Int) == 95) = false := beq_eq_false_iff_ne.2 (by omega)
          have h48 : decide (48 ≤ (N : Int)) = true := decide_eq_true (by omega)
          have h57 : decide ((N : Int) ≤ 57) = false := decide_eq_false (by omega)
          have h97 : decide (97 ≤ (X : Int)) = true := decide_eq_true (by omega)
          have h122 : decide ((X : Int) ≤ 122) = true := decide_eq_true (by omega)
          have hs1 : IntKind.u8.wrap ((X : Int) - 97) = ((X - 97 : Nat) : Int) := by simp only [IntKind.wrap, IntKind.signed, IntKind.bits]; simp; omega
          have hs2 : IntKind.u8.wrap (((X - 97 : Nat) : Int) + 10) = ((X - 87 : Nat) : Int) := by simp only [IntKind.wrap, IntKind.signed, IntKind.bits]; simp; omega
          by_cases hC : X ≤ 102
          · rw [if_pos ⟨hB2.1, hC⟩] at hacc
            simp only at hacc
            have w1 : IntKind.u64.wrap ((n : Int) * 16) = ((16 * n : Nat) : Int) := by simp only [IntKind.wrap, IntKind.signed, IntKind.bits]; simp; omega
            have w2 : IntKind.u64.wrap (((X - 87) : Nat) : Int) = (((X - 87) : Nat) : Int) := by simp only [IntKind.wrap, IntKind.signed, IntKind.bits]; simp; omega
            have w3 : IntKind.u64.wrap (((16 * n : Nat) : Int) + (((X - 87) : Nat) : Int)) = ((16 * n + (X - 87) : Nat) : Int) := by simp only [IntKind.wrap, IntKind.signed, IntKind.bits]; simp; omega
            have w4 : decide (((16 * n + (X - 87) : Nat) : Int) < ((16 * n : Nat) : Int)) = false := decide_eq_false (by omega)
            have w5 : decide ((((X - 87) : Nat) : Int) ≥ 16) = false := decide_eq_false (by omega)
            have w6 : decide (16 ≤ (((X - 87) : Nat) : Int)) = false := decide_eq_false (by omega)
            generalize hD : (X - 87) = d at *
            generalize hM : 16 * n = m at *
            generalize hQ : m + d = q at *
            by_cases hov : 4294967295 < q
            · have w7 : decide (((q : Nat) : Int) > 4294967295) = true := decide_eq_true (by omega)
              have w8 : decide (4294967295 < ((q : Nat) : Int)) = true := decide_eq_true (by omega)
              rw [if_pos hov] at hacc
              go_wp2_with go_in
              go_ret2
              rw [← hacc]
              exact ⟨rfl, hb⟩
            · have w7 : decide (((q : Nat) : Int) > 4294967295) = false := decide_eq_false (by omega)
              have w8 : decide (4294967295 < ((q : Nat) : Int)) = false := decide_eq_false (by omega)
              have w9 : IntKind.i64.wrap ((i : Int) + 1) = ((i + 1 : Nat) : Int) := by simp only [IntKind.wrap, IntKind.signed, IntKind.bits]; simp; omega
              rw [if_neg hov] at hacc
              go_wp2_with go_in
              go_roundw
              case rel => exact ⟨q, i + 1, rfl, rfl, by simp, by omega, by omega, hacc, by first | rfl | trivial⟩
              case measure =>
                simp only
                omega
          · have hge : decide (((X - 87 : Nat) : Int) ≥ 16) = true := decide_eq_true (by omega)
            have hge2 : decide (16 ≤ ((X - 87 : Nat) : Int)) = true := decide_eq_true (by omega)
            rw [if_neg (fun k => hC k.2)] at hacc
            simp only at hacc
            go_wp2_with go_in
            go_ret2
            rw [← hacc]
            exact ⟨rfl, hb⟩
        · rw [if_neg (fun k => hB2 ⟨k.1, by omega⟩)] at hacc
          simp only at hacc
          clear hlx
          by_cases h95 : N = 95
          · have hne95 : ((N : Int) == 95) = true := beq_iff_eq.2 (by omega)
            have hX := h127 h95
            have h48 : decide (48 ≤ (N : Int)) = true := decide_eq_true (by omega)
            have h57 : decide ((N : Int) ≤ 57) = false := decide_eq_false (by omega)
            have h97 : decide (97 ≤ (X : Int)) = true := decide_eq_true (by omega)
            have h122 : decide ((X : Int) ≤ 122) = false := decide_eq_false (by omega)
            go_wp2_with go_in
            go_ret2
            rw [← hacc]
            exact ⟨rfl, hb⟩
          · have hne95 : ((N : Int) == 95) = false := beq_eq_false_iff_ne.2 (by omega)
            by_cases k48 : 48 ≤ N
            · have h48 : decide (48 ≤ (N : Int)) = true := decide_eq_true (by omega)
              have h57 : decide ((N : Int) ≤ 57) = false := decide_eq_false (by omega)
              by_cases k97 : 97 ≤ X
              · have h97 : decide (97 ≤ (X : Int)) = true := decide_eq_true (by omega)
                have h122 : decide ((X : Int) ≤ 122) = false := decide_eq_false (by omega)
                go_wp2_with go_in
                go_ret2
                rw [← hacc]
                exact ⟨rfl, hb⟩
              · have h97 : decide (97 ≤ (X : Int)) = false := decide_eq_false (by omega)
                go_wp2_with go_in
                go_ret2
                rw [← hacc]
                exact ⟨rfl, hb⟩
            · have h48 : decide (48 ≤ (N : Int)) = false := decide_eq_false (by omega)
              by_cases k97 : 97 ≤ X
              · have h97 : decide (97 ≤ (X : Int)) = true := decide_eq_true (by omega)
                have h122 : decide ((X : Int) ≤ 122) = false := decide_eq_false (by omega)
                go_wp2_with go_in
                go_ret2
                rw [← hacc]
                exact ⟨rfl, hb⟩
              · have h97 : decide (97 ≤ (X : Int)) = false := decide_eq_false (by omega)
                go_wp2_with go_in
                go_ret2
                rw [← hacc]
                exact ⟨rfl, hb⟩
    · have hg : decide ((i : Int) < (s.size : Int)) = false := decide_eq_false (by omega)
      have hg2 : decide (i < s.size) = false := decide_eq_false (by omega)
      rw [List.drop_eq_nil_of_le (by omega)] at hacc
      go_wp2_with go_in
      go_ret2
      rw [← hacc]
      exact ⟨rfl, hb⟩
/-- ParseUint at base 16, of any text. -/
def pV (l : List UInt8) : Nat × Nat := if l = [] then (0, 2) else pU l 0
theorem pU_facts : ∀ (l : List UInt8) (n : Nat), n ≤ 4294967295 → (pU l n).1 ≤ 4294967295 ∧ (pU l n).2 ≤ 2 ∧ ((pU l n).2 = 1 → (pU l n).1 = 4294967295) ∧ ((pU l n).2 = 2 → (pU l n).1 = 0)
  | [], n, h => by simp only [pU]; omega
  | c :: l, n, h => by
    simp only [pU]
    cases digit16 c.toNat with
    | none => simp
    | some d =>
      simp only
      by_cases hc : 4294967295 < 16 * n + d
      · rw [if_pos hc]
        simp
      · rw [if_neg hc]
        exact pU_facts l _ (by omega)
theorem pV_facts (l : List UInt8) : (pV l).1 ≤ 4294967295 ∧ (pV l).2 ≤ 2 ∧ ((pV l).2 = 1 → (pV l).1 = 4294967295) ∧ ((pV l).2 = 2 → (pV l).1 = 0) := by
  unfold pV
  split
  · simp
  · exact pU_facts l 0 (by omega)
set_option maxHeartbeats 4000000 in
set_option maxRecDepth 1000000 in
theorem parseUint_empty (w : World) :
    Calls Tryd.prog 66 #[.string ⟨#[]⟩, .int .i64 16, .int .i64 32] w fun e w' => e = .returned (.tuple #[.int .u64 0, errU 2]) ∧ Below w.heap.size w w' := by
  go_enter Tryd.func66, Tryd.ntmps66
  have hn : ((⟨#[]⟩ : ByteArray).toList == ([] : List UInt8)) = true := by decide +kernel
  go_wp2_with go_in
  go_ret2
  exact ⟨rfl, Below.refl _ w⟩
/-- ParseInt at base 16, 32 bits: the value, and the error's number. -/
def pS (neg : Bool) (l : List UInt8) : Int × Nat :=
  if (pV l).2 = 2 then (0, 2) else if neg then (if 2147483648 < (pV l).1 then (-2147483648, 1) else (-((pV l).1 : Int), 0)) else (if 2147483648 ≤ (pV l).1 then (2147483647, 1) else (((pV l).1 : Int), 0))
def pI : List UInt8 → Int × Nat
  | [] => (0, 2)
  | c :: l => if c = 43 then pS false l else if c = 45 then pS true l else pS false (c :: l)
end Go.Proofs.YtenngdkgahngjaaDoor.All
