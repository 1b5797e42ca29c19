/- Walks through the code of signs, by hand. -/
import Derived.Test.YtenngdkgahngjaaDoorGTabs
import Derived.Test.YtenngdkgahngjaaDoorWMore
import Derived.Lib.OthersKept
import Derived.WalkKit
import Derived.BigCall
import Derived.KernelRfl
import Derived.Below
import Derived.Test.YtenngdkgahngjaaDoorGShelf
import Derived.Lib.TrimU
import Derived.Laws.Slices
import Derived.Laws.Cover4
import Derived.Laws.BitsAllLaws
import Derived.Laws.BytesArg
import Derived.Lib.LazyBuf
import Derived.Lib.IfaceEq
import Derived.Test.YtenngdkgahngjaaDoorSgQ
import Derived.Test.YtenngdkgahngjaaDoorSgA
namespace Go.Proofs.YtenngdkgahngjaaDoor.All
open Go.RowKit Go.Proofs.YtenngdkgahngjaaDoorW.PrintWords Go.Proofs.YtenngdkgahngjaaDoorW.PrintLast Go.Proofs.YtenngdkgahngjaaDoorW.PrintMore Go.Proofs.YtenngdkgahngjaaDoor.G
set_option linter.unusedVariables false
set_option linter.unusedSimpArgs false
set_option maxHeartbeats 4000000
set_option maxRecDepth 1000000
/-- What stands behind a mark: the sign, what follows, and whether there is one. -/
def sgn (l : List UInt8) : Int × List UInt8 × Bool :=
  match l with
  | [] => (0, [], false)
  | c :: r => if c = 64 then (64, r, true) else if 0 < lookdn (c.toNat : Int) farR nearL then (lookdn (c.toNat : Int) farR nearL, r, true) else
    if Lib.hasPrefix (Lib.cut (c :: r) [125]).1 [123] = true then ((pI (Lib.trimPrefix (Lib.cut (c :: r) [125]).1 [123])).1, (Lib.cut (c :: r) [125]).2.1, decide ((pI (Lib.trimPrefix (Lib.cut (c :: r) [125]).1 [123])).2 = 0) && Lib.validRune (pI (Lib.trimPrefix (Lib.cut (c :: r) [125]).1 [123])).1) else (0, [], false)
theorem sign_empty (w : World) :
    Calls Tryd.prog 21 #[.string ⟨#[]⟩] w fun e w' => e = .returned (.tuple #[.int .i32 0, .string ⟨#[]⟩, .bool false]) ∧ Below w.heap.size w w' := by
  go_enter Tryd.func21, Tryd.ntmps21
  have hn : ((⟨#[]⟩ : ByteArray).toList == ([] : List UInt8)) = true := by decide +kernel
  go_wp2_with go_in
  go_ret3
  exact ⟨rfl, Below.refl _ w⟩
theorem sign_mark (s : ByteArray) (h0 : 0 < s.size) (b : Int) (hb0 : ∀ h : 0 < s.size, ((s[0]'h).toNat : Int) = b) (h64 : (b == 64) = true) (w : World) (hT : Tabs w) :
    Calls Tryd.prog 21 #[.string s] w fun e w' => e = .returned (.tuple #[.int .i32 64, .string (s.extract 1 s.size), .bool true]) ∧ Below w.heap.size w w' := by
  have hn : (s.toList == ([] : List UInt8)) = false := beq_eq_false_iff_ne.2 (by rw [Lib.toList_data]; intro k; rw [Lib.size_eq, k] at h0; exact absurd h0 (by simp))
  have h0' : (0 < s.size) = True := eq_true h0
  have h0i : (0 < (s.size : Int)) = True := eq_true (by omega)
  have h1' : (1 ≤ s.size) = True := eq_true h0
  have h1i : (1 ≤ (s.size : Int)) = True := eq_true (by omega)
  have HB := Aside0.mk (Below.refl w.heap.size w)
  go_enter Tryd.func21, Tryd.ntmps21
  go_wp2_with (first | go_in)
  first | go_region_law (go_simp; go_wp2_with (first | go_in)) | fail
  all_goals (try go_wp2)
  all_goals go_ret3
  all_goals exact ⟨rfl, by repeat (first | (with_reducible first | exact HB.out | apply pw_below_drewN | apply below_drew1) | exact HB.out)⟩
theorem sign_long (s : ByteArray) (h0 : 0 < s.size) (b : Int) (hb0 : ∀ h : 0 < s.size, ((s[0]'h).toNat : Int) = b) (h64 : (b == 64) = false) (x : Int) (hx : decide (x > 0) = true) (hx2 : decide (0 < x) = true) (w : World) (hT : Tabs w)
    (C1 : ∀ W, Tabs W → Calls Tryd.prog 35 #[.int .u8 b] W fun e w' => e = .returned (.int .i32 x) ∧ Below W.heap.size W w') :
    Calls Tryd.prog 21 #[.string s] w fun e w' => e = .returned (.tuple #[.int .i32 x, .string (s.extract 1 s.size), .bool true]) ∧ Below w.heap.size w w' := by
  have hn : (s.toList == ([] : List UInt8)) = false := beq_eq_false_iff_ne.2 (by rw [Lib.toList_data]; intro k; rw [Lib.size_eq, k] at h0; exact absurd h0 (by simp))
  have h0' : (0 < s.size) = True := eq_true h0
  have h0i : (0 < (s.size : Int)) = True := eq_true (by omega)
  have h1' : (1 ≤ s.size) = True := eq_true h0
  have h1i : (1 ≤ (s.size : Int)) = True := eq_true (by omega)
  have HB := Aside0.mk (Below.refl w.heap.size w)
  go_enter Tryd.func21, Tryd.ntmps21
  go_wp2_with (first | (go_at_call 35; (with_reducible refine (C1 _ ?side1).mono ?_); (case side1 => exact Tabs.below hT (by repeat (first | (with_reducible first | exact HB.out | apply pw_below_drewN | apply below_drew1) | exact HB.out))); rintro e w1 ⟨rfl, hb⟩; have m1_ := Aside0.mk (below_step (by repeat (first | (with_reducible first | exact HB.out | apply pw_below_drewN | apply below_drew1) | exact HB.out)) hb); clear HB; have HB := m1_; clear m1_; clear hb))
  first | go_region_law (go_simp; go_wp2_with (first | (go_at_call 35; (with_reducible refine (C1 _ ?side1).mono ?_); (case side1 => exact Tabs.below hT (by repeat (first | (with_reducible first | exact HB.out | apply pw_below_drewN | apply below_drew1) | exact HB.out))); rintro e w1 ⟨rfl, hb⟩; have m1_ := Aside0.mk (below_step (by repeat (first | (with_reducible first | exact HB.out | apply pw_below_drewN | apply below_drew1) | exact HB.out)) hb); clear HB; have HB := m1_; clear m1_; clear hb))) | fail
  all_goals (try go_wp2)
  all_goals go_ret3
  all_goals exact ⟨rfl, by repeat (first | (with_reducible first | exact HB.out | apply pw_below_drewN | apply below_drew1) | exact HB.out)⟩
theorem sign_none (s : ByteArray) (h0 : 0 < s.size) (b : Int) (hb0 : ∀ h : 0 < s.size, ((s[0]'h).toNat : Int) = b) (h64 : (b == 64) = false) (x : Int) (hx : decide (x > 0) = false) (hx2 : decide (0 < x) = false) (d r t : ByteArray) (m : Bool) (w : World) (hT : Tabs w)
    (C1 : ∀ W, Tabs W → Calls Tryd.prog 35 #[.int .u8 b] W fun e w' => e = .returned (.int .i32 x) ∧ Below W.heap.size W w')
    (C2 : ∀ W, Tabs W → Calls Tryd.prog 20 #[.string s, .string ⟨#[125]⟩] W fun e w' => e = .returned (.tuple #[.string d, .string r, .bool m]) ∧ Below W.heap.size W w')
    (C3 : ∀ W, Tabs W → Calls Tryd.prog 36 #[.string d, .string ⟨#[123]⟩] W fun e w' => e = .returned (.tuple #[.string t, .bool false]) ∧ Below W.heap.size W w') :
    Calls Tryd.prog 21 #[.string s] w fun e w' => e = .returned (.tuple #[.int .i32 0, .string ⟨#[]⟩, .bool false]) ∧ Below w.heap.size w w' := by
  have hn : (s.toList == ([] : List UInt8)) = false := beq_eq_false_iff_ne.2 (by rw [Lib.toList_data]; intro k; rw [Lib.size_eq, k] at h0; exact absurd h0 (by simp))
  have h0' : (0 < s.size) = True := eq_true h0
  have h0i : (0 < (s.size : Int)) = True := eq_true (by omega)
  have h1' : (1 ≤ s.size) = True := eq_true h0
  have h1i : (1 ≤ (s.size : Int)) = True := eq_true (by omega)
  have HB := Aside0.mk (Below.refl w.heap.size w)
  go_enter Tryd.func21, Tryd.ntmps21
  go_wp2_with (first | (go_at_call 35; (with_reducible refine (C1 _ ?side1).mono ?_); (case side1 => exact Tabs.below hT (by repeat (first | (with_reducible first | exact HB.out | apply pw_below_drewN | apply below_drew1) | exact HB.out))); rintro e w1 ⟨rfl, hb⟩; have m1_ := Aside0.mk (below_step (by repeat (first | (with_reducible first | exact HB.out | apply pw_below_drewN | apply below_drew1) | exact HB.out)) hb); clear HB; have HB := m1_; clear m1_; clear hb) | (go_at_call 20; (with_reducible refine (C2 _ ?side1).mono ?_); (case side1 => exact Tabs.below hT (by repeat (first | (with_reducible first | exact HB.out | apply pw_below_drewN | apply below_drew1) | exact HB.out))); rintro e w1 ⟨rfl, hb⟩; have m1_ := Aside0.mk (below_step (by repeat (first | (with_reducible first | exact HB.out | apply pw_below_drewN | apply below_drew1) | exact HB.out)) hb); clear HB; have HB := m1_; clear m1_; clear hb) | (go_at_call 36; (with_reducible refine (C3 _ ?side1).mono ?_); (case side1 => exact Tabs.below hT (by repeat (first | (with_reducible first | exact HB.out | apply pw_below_drewN | apply below_drew1) | exact HB.out))); rintro e w1 ⟨rfl, hb⟩; have m1_ := Aside0.mk (below_step (by repeat (first | (with_reducible first | exact HB.out | apply pw_below_drewN | apply below_drew1) | exact HB.out)) hb); clear HB; have HB := m1_; clear m1_; clear hb))
  all_goals go_ret3
  all_goals exact ⟨rfl, by repeat (first | (with_reducible first | exact HB.out | apply pw_below_drewN | apply below_drew1) | exact HB.out)⟩
theorem sign_hex (s : ByteArray) (h0 : 0 < s.size) (b : Int) (hb0 : ∀ h : 0 < s.size, ((s[0]'h).toNat : Int) = b) (h64 : (b == 64) = false) (x : Int) (hx : decide (x > 0) = false) (hx2 : decide (0 < x) = false) (d r t : ByteArray) (m : Bool) (v : Int) (hv : IntKind.i32.wrap v = v) (q : Bool) (w : World) (hT : Tabs w)
    (C1 : ∀ W, Tabs W → Calls Tryd.prog 35 #[.int .u8 b] W fun e w' => e = .returned (.int .i32 x) ∧ Below W.heap.size W w')
    (C2 : ∀ W, Tabs W → Calls Tryd.prog 20 #[.string s, .string ⟨#[125]⟩] W fun e w' => e = .returned (.tuple #[.string d, .string r, .bool m]) ∧ Below W.heap.size W w')
    (C3 : ∀ W, Tabs W → Calls Tryd.prog 36 #[.string d, .string ⟨#[123]⟩] W fun e w' => e = .returned (.tuple #[.string t, .bool true]) ∧ Below W.heap.size W w')
    (C4 : ∀ W, Tabs W → Calls Tryd.prog 37 #[.string t, .int .i64 16, .int .i64 32] W fun e w' => e = .returned (.tuple #[.int .i64 v, .nilIface]) ∧ Below W.heap.size W w')
    (C5 : ∀ W, Tabs W → Calls Tryd.prog 38 #[.int .i32 v] W fun e w' => e = .returned (.bool q) ∧ Below W.heap.size W w') :
    Calls Tryd.prog 21 #[.string s] w fun e w' => e = .returned (.tuple #[.int .i32 v, .string r, .bool q]) ∧ Below w.heap.size w w' := by
  have hn : (s.toList == ([] : List UInt8)) = false := beq_eq_false_iff_ne.2 (by rw [Lib.toList_data]; intro k; rw [Lib.size_eq, k] at h0; exact absurd h0 (by simp))
  have h0' : (0 < s.size) = True := eq_true h0
  have h0i : (0 < (s.size : Int)) = True := eq_true (by omega)
  have h1' : (1 ≤ s.size) = True := eq_true h0
  have h1i : (1 ≤ (s.size : Int)) = True := eq_true (by omega)
  have HB := Aside0.mk (Below.refl w.heap.size w)
  go_enter Tryd.func21, Tryd.ntmps21
  go_wp2_with (first | (go_at_call 35; (with_reducible refine (C1 _ ?side1).mono ?_); (case side1 => exact Tabs.below hT (by repeat (first | (with_reducible first | exact HB.out | apply pw_below_drewN | apply below_drew1) | exact HB.out))); rintro e w1 ⟨rfl, hb⟩; have m1_ := Aside0.mk (below_step (by repeat (first | (with_reducible first | exact HB.out | apply pw_below_drewN | apply below_drew1) | exact HB.out)) hb); clear HB; have HB := m1_; clear m1_; clear hb) | (go_at_call 20; (with_reducible refine (C2 _ ?side1).mono ?_); (case side1 => exact Tabs.below hT (by repeat (first | (with_reducible first | exact HB.out | apply pw_below_drewN | apply below_drew1) | exact HB.out))); rintro e w1 ⟨rfl, hb⟩; have m1_ := Aside0.mk (below_step (by repeat (first | (with_reducible first | exact HB.out | apply pw_below_drewN | apply below_drew1) | exact HB.out)) hb); clear HB; have HB := m1_; clear m1_; clear hb) | (go_at_call 36; (with_reducible refine (C3 _ ?side1).mono ?_); (case side1 => exact Tabs.below hT (by repeat (first | (with_reducible first | exact HB.out | apply pw_below_drewN | apply below_drew1) | exact HB.out))); rintro e w1 ⟨rfl, hb⟩; have m1_ := Aside0.mk (below_step (by repeat (first | (with_reducible first | exact HB.out | apply pw_below_drewN | apply below_drew1) | exact HB.out)) hb); clear HB; have HB := m1_; clear m1_; clear hb) | (go_at_call 37; (with_reducible refine (C4 _ ?side1).mono ?_); (case side1 => exact Tabs.below hT (by repeat (first | (with_reducible first | exact HB.out | apply pw_below_drewN | apply below_drew1) | exact HB.out))); rintro e w1 ⟨rfl, hb⟩; have m1_ := Aside0.mk (below_step (by repeat (first | (with_reducible first | exact HB.out | apply pw_below_drewN | apply below_drew1) | exact HB.out)) hb); clear HB; have HB := m1_; clear m1_; clear hb) | (go_at_call 38; (with_reducible refine (C5 _ ?side1).mono ?_); (case side1 => exact Tabs.below hT (by repeat (first | (with_reducible first | exact HB.out | apply pw_below_drewN | apply below_drew1) | exact HB.out))); rintro e w1 ⟨rfl, hb⟩; have m1_ := Aside0.mk (below_step (by repeat (first | (with_reducible first | exact HB.out | apply pw_below_drewN | apply below_drew1) | exact HB.out)) hb); clear HB; have HB := m1_; clear m1_; clear hb))
  all_goals go_ret3
  all_goals exact ⟨rfl, by repeat (first | (with_reducible first | exact HB.out | apply pw_below_drewN | apply below_drew1) | exact HB.out)⟩
theorem sign_bad (s : ByteArray) (h0 : 0 < s.size) (b : Int) (hb0 : ∀ h : 0 < s.size, ((s[0]'h).toNat : Int) = b) (h64 : (b == 64) = false) (x : Int) (hx : decide (x > 0) = false) (hx2 : decide (0 < x) = false) (d r t : ByteArray) (m : Bool) (v : Int) (hv : IntKind.i32.wrap v = v) (w : World) (hT : Tabs w)
    (C1 : ∀ W, Tabs W → Calls Tryd.prog 35 #[.int .u8 b] W fun e w' => e = .returned (.int .i32 x) ∧ Below W.heap.size W w')
    (C2 : ∀ W, Tabs W → Calls Tryd.prog 20 #[.string s, .string ⟨#[125]⟩] W fun e w' => e = .returned (.tuple #[.string d, .string r, .bool m]) ∧ Below W.heap.size W w')
    (C3 : ∀ W, Tabs W → Calls Tryd.prog 36 #[.string d, .string ⟨#[123]⟩] W fun e w' => e = .returned (.tuple #[.string t, .bool true]) ∧ Below W.heap.size W w')
    (C4 : ∀ W, Tabs W → Calls Tryd.prog 37 #[.string t, .int .i64 16, .int .i64 32] W fun e w' => ∃ N, e = .returned (.tuple #[.int .i64 v, .iface 93 (.pointer (some ⟨N, 0, none⟩))]) ∧ Below W.heap.size W w') :
    Calls Tryd.prog 21 #[.string s] w fun e w' => e = .returned (.tuple #[.int .i32 v, .string r, .bool false]) ∧ Below w.heap.size w w' := by
  have hn : (s.toList == ([] : List UInt8)) = false := beq_eq_false_iff_ne.2 (by rw [Lib.toList_data]; intro k; rw [Lib.size_eq, k] at h0; exact absurd h0 (by simp))
  have h0' : (0 < s.size) = True := eq_true h0
  have h0i : (0 < (s.size : Int)) = True := eq_true (by omega)
  have h1' : (1 ≤ s.size) = True := eq_true h0
  have h1i : (1 ≤ (s.size : Int)) = True := eq_true (by omega)
  have HB := Aside0.mk (Below.refl w.heap.size w)
  go_enter Tryd.func21, Tryd.ntmps21
  go_wp2_with (first | (go_at_call 35; (with_reducible refine (C1 _ ?side1).mono ?_); (case side1 => exact Tabs.below hT (by repeat (first | (with_reducible first | exact HB.out | apply pw_below_drewN | apply below_drew1) | exact HB.out))); rintro e w1 ⟨rfl, hb⟩; have m1_ := Aside0.mk (below_step (by repeat (first | (with_reducible first | exact HB.out | apply pw_below_drewN | apply below_drew1) | exact HB.out)) hb); clear HB; have HB := m1_; clear m1_; clear hb) | (go_at_call 20; (with_reducible refine (C2 _ ?side1).mono ?_); (case side1 => exact Tabs.below hT (by repeat (first | (with_reducible first | exact HB.out | apply pw_below_drewN | apply below_drew1) | exact HB.out))); rintro e w1 ⟨rfl, hb⟩; have m1_ := Aside0.mk (below_step (by repeat (first | (with_reducible first | exact HB.out | apply pw_below_drewN | apply below_drew1) | exact HB.out)) hb); clear HB; have HB := m1_; clear m1_; clear hb) | (go_at_call 36; (with_reducible refine (C3 _ ?side1).mono ?_); (case side1 => exact Tabs.below hT (by repeat (first | (with_reducible first | exact HB.out | apply pw_below_drewN | apply below_drew1) | exact HB.out))); rintro e w1 ⟨rfl, hb⟩; have m1_ := Aside0.mk (below_step (by repeat (first | (with_reducible first | exact HB.out | apply pw_below_drewN | apply below_drew1) | exact HB.out)) hb); clear HB; have HB := m1_; clear m1_; clear hb) | (go_at_call 37; (with_reducible refine (C4 _ ?side1).mono ?_); (case side1 => exact Tabs.below hT (by repeat (first | (with_reducible first | exact HB.out | apply pw_below_drewN | apply below_drew1) | exact HB.out))); rintro e w1 ⟨N, rfl, hb⟩; have m1_ := Aside0.mk (below_step (by repeat (first | (with_reducible first | exact HB.out | apply pw_below_drewN | apply below_drew1) | exact HB.out)) hb); clear HB; have HB := m1_; clear m1_; clear hb))
  all_goals go_ret3
  all_goals exact ⟨rfl, by repeat (first | (with_reducible first | exact HB.out | apply pw_below_drewN | apply below_drew1) | exact HB.out)⟩
theorem cut_len (l s : List UInt8) : (Lib.cut l s).1.length ≤ l.length ∧ ((Lib.cut l s).2.2 = true → (Lib.cut l s).1.length + s.length + (Lib.cut l s).2.1.length ≤ l.length ∨ (Lib.cut l s).2.1 = []) ∧ (Lib.cut l s).2.1.length ≤ l.length := by
  unfold Lib.cut
  split
  · simp only [List.length_take, List.length_drop]
    refine ⟨by omega, fun _ => ?_, by omega⟩
    by_cases h : (Lib.index l s).toNat + s.length ≤ l.length
    · left; omega
    · right; exact List.drop_eq_nil_of_le (by omega)
  · simp
theorem trim_len (l s : List UInt8) : (Lib.trimPrefix l s).length ≤ l.length := by
  unfold Lib.trimPrefix
  split
  · simp
  · exact Nat.le_refl _
theorem lookdn_le (c : Int) (M : Nat) : ∀ (xs ys : List Nat), (∀ x ∈ xs, x ≤ M) → 0 ≤ lookdn c xs ys ∧ lookdn c xs ys ≤ M
  | [], ys, h => by cases ys <;> simp [lookdn]
  | x :: xs, [], h => by simp [lookdn]
  | x :: xs, y :: ys, h => by
    rw [lookdn]
    split
    · have := h x (by simp)
      omega
    · exact lookdn_le c M xs ys (fun z hz => h z (by simp [hz]))
theorem sgn_facts (l : List UInt8) : -2147483648 ≤ (sgn l).1 ∧ (sgn l).1 ≤ 2147483647 ∧ (sgn l).2.1.length ≤ l.length := by
  unfold sgn
  split
  · simp
  · split
    · simp
    · split
      · rename_i c r h1 h2
        have := lookdn_le (c.toNat : Int) 65535 farR nearL (by decide +kernel)
        simp only [List.length_cons]
        omega
      · rename_i c r h1 h2
        split
        · have h3 := pI_facts (Lib.trimPrefix (Lib.cut (c :: r) [125]).1 [123])
          have h4 := cut_len (c :: r) [125]
          exact ⟨h3.1, h3.2.1, h4.2.2⟩
        · simp
theorem sign_all (s : ByteArray) (hs : s.size ≤ 1000000000) (w : World) (hT : Tabs w) :
    Calls Tryd.prog 21 #[.string s] w fun e w' => e = .returned (.tuple #[.int .i32 (sgn s.data.toList).1, .string ⟨(sgn s.data.toList).2.1.toArray⟩, .bool (sgn s.data.toList).2.2]) ∧ Below w.heap.size w w' := by
  cases h : s.data.toList with
  | nil =>
    have e : s = ⟨#[]⟩ := by
      cases s with
      | mk d => exact congrArg ByteArray.mk (Array.toList_inj.1 (by simpa using h))
    subst e
    exact sign_empty w
  | cons c l =>
    have h0 : 0 < s.size := by rw [Lib.size_eq, h]; exact Nat.zero_lt_succ _
    have hb : ∀ k : 0 < s.size, ((s[0]'k).toNat : Int) = (c.toNat : Int) := fun k => by
      have : s[0]'k = s.data.toList[0]'(by rw [← Lib.size_eq]; exact k) := by rw [Array.getElem_toList]; rfl
      rw [this]
      simp only [h, List.getElem_cons_zero]
    have hx : s.extract 1 s.size = ⟨l.toArray⟩ := by
      have := ext_list s c l h
      cases hq : s.extract 1 s.size with
      | mk d =>
        rw [hq] at this
        exact congrArg ByteArray.mk (Array.toList_inj.1 (by simpa using this))
    have hne : ∀ n : Nat, n < 256 → c ≠ UInt8.ofNat n → (((c.toNat : Int) == (n : Int)) = false) := fun n hn k => beq_eq_false_iff_ne.2 (fun q => k (by rw [← UInt8.ofNat_toNat (x := c), show c.toNat = n by omega]))
    by_cases h64 : c = 64
    · have := sign_mark s h0 _ hb (by rw [h64]; rfl) w hT
      rw [hx] at this
      rw [show sgn (c :: l) = (64, l, true) by simp only [sgn, if_pos h64]]
      exact this
    · have h64' := hne 64 (by omega) h64
      have C1 : ∀ W, Tabs W → Calls Tryd.prog 35 #[.int .u8 (c.toNat : Int)] W fun e w' => e = .returned (.int .i32 (lookdn (c.toNat : Int) farR nearL)) ∧ Below W.heap.size W w' := fun W _ => long_walk _ W
      by_cases hl : 0 < lookdn (c.toNat : Int) farR nearL
      · have := sign_long s h0 _ hb h64' _ (decide_eq_true (by omega)) (decide_eq_true hl) w hT C1
        rw [hx] at this
        rw [show sgn (c :: l) = (lookdn (c.toNat : Int) farR nearL, l, true) by simp only [sgn, if_neg h64, if_pos hl]]
        exact this
      · have C2 : ∀ W, Tabs W → Calls Tryd.prog 20 #[.string s, .string ⟨#[125]⟩] W fun e w' => e = .returned (.tuple #[.string ⟨(Lib.cut (c :: l) [125]).1.toArray⟩, .string ⟨(Lib.cut (c :: l) [125]).2.1.toArray⟩, .bool (Lib.cut (c :: l) [125]).2.2]) ∧ Below W.heap.size W w' := fun W hW => by
          obtain ⟨m, hm⟩ := hW.maxlen
          have := Tryd.strings_Cut s ⟨#[125]⟩ m W (by omega) hm
          rw [h] at this
          exact this.mono fun e w' k => ⟨k.1, by obtain ⟨n, rfl⟩ := k.2; exact pw_below_drewN (Below.refl _ _) n⟩
        have hcl := cut_len (c :: l) [125]
        have hcs : (c :: l).length = s.size := by rw [Lib.size_eq, h]
        rw [show sgn (c :: l) = if Lib.hasPrefix (Lib.cut (c :: l) [125]).1 [123] = true then ((pI (Lib.trimPrefix (Lib.cut (c :: l) [125]).1 [123])).1, (Lib.cut (c :: l) [125]).2.1, decide ((pI (Lib.trimPrefix (Lib.cut (c :: l) [125]).1 [123])).2 = 0) && Lib.validRune (pI (Lib.trimPrefix (Lib.cut (c :: l) [125]).1 [123])).1) else (0, [], false) by simp only [sgn, if_neg h64, if_neg hl]]
        generalize Lib.cut (c :: l) [125] = p at C2 hcl ⊢
        have C3 : ∀ W, Tabs W → Calls Tryd.prog 36 #[.string ⟨p.1.toArray⟩, .string ⟨#[123]⟩] W fun e w' => e = .returned (.tuple #[.string ⟨(Lib.trimPrefix p.1 [123]).toArray⟩, .bool (Lib.hasPrefix p.1 [123])]) ∧ Below W.heap.size W w' := fun W _ => (Tryd.strings_CutPrefix ⟨p.1.toArray⟩ ⟨#[123]⟩ W).mono fun e w' k => ⟨k.1, by rw [k.2]; exact Below.refl _ _⟩
        have htl := trim_len p.1 [123]
        generalize Lib.trimPrefix p.1 [123] = q at C3 htl ⊢
        cases hp : Lib.hasPrefix p.1 [123] with
        | false =>
          rw [hp] at C3
          rw [if_neg (by decide)]
          exact sign_none s h0 _ hb h64' _ (decide_eq_false (by omega)) (decide_eq_false hl) _ _ _ _ w hT C1 C2 C3
        | true =>
          rw [hp] at C3
          rw [if_pos rfl]
          have hq : (⟨q.toArray⟩ : ByteArray).size ≤ 1000000000 := by rw [Lib.size_eq]; simp only; omega
          have C4 := fun W hW => parseInt37_all ⟨q.toArray⟩ hq W hW
          obtain ⟨f1, f2, _⟩ := pI_facts q
          have e1 : (⟨q.toArray⟩ : ByteArray).data.toList = q := rfl
          simp only [e1] at C4
          generalize pI q = v at C4 f1 f2 ⊢
          have hv : IntKind.i32.wrap v.1 = v.1 := by simp only [IntKind.wrap, IntKind.signed, IntKind.bits]; simp; omega
          by_cases hk : v.2 = 0
          · rw [decide_eq_true hk, Bool.true_and]
            exact sign_hex s h0 _ hb h64' _ (decide_eq_false (by omega)) (decide_eq_false hl) _ _ _ _ _ hv _ w hT C1 C2 C3 (fun W hW => (C4 W hW).elim (fun k => k.2) (fun k => absurd hk k.1)) (fun W _ => (Tryd.utf8_ValidRune v.1 W).mono fun e w' k => ⟨k.1, by rw [k.2]; exact Below.refl _ _⟩)
          · rw [decide_eq_false hk, Bool.false_and]
            exact sign_bad s h0 _ hb h64' _ (decide_eq_false (by omega)) (decide_eq_false hl) _ _ _ _ _ hv w hT C1 C2 C3 (fun W hW => (C4 W hW).elim (fun k => absurd k.1 hk) (fun k => k.2))
end Go.Proofs.YtenngdkgahngjaaDoor.All
