/- Walks through the code of signs, by hand. -/
import Derived.Test.YtenngdkgahngjaaDoorGTabs
import Derived.Test.YtenngdkgahngjaaDoorWMore
import Derived.Lib.OthersKept
import Derived.WalkKit
import Derived.BigCall
import Derived.KernelRfl
import Derived.Below
import Derived.Test.YtenngdkgahngjaaDoorGShelf
import Derived.Lib.TrimU
import Derived.Laws.Slices
import Derived.Laws.Cover4
import Derived.Laws.BitsAllLaws
import Derived.Laws.BytesArg
import Derived.Lib.LazyBuf
import Derived.Lib.IfaceEq
import Derived.Test.YtenngdkgahngjaaDoorSgP
namespace Go.Proofs.YtenngdkgahngjaaDoor.All
open Go.RowKit Go.Proofs.YtenngdkgahngjaaDoorW.PrintWords Go.Proofs.YtenngdkgahngjaaDoorW.PrintLast Go.Proofs.YtenngdkgahngjaaDoorW.PrintMore Go.Proofs.YtenngdkgahngjaaDoor.G
set_option linter.unusedVariables false
set_option linter.unusedSimpArgs false
set_option maxHeartbeats 4000000
set_option maxRecDepth 1000000
theorem run_neq_iface_int {P : Program} (w : World) {t tx : TypeId} {ms : Array (String × TypeId)} {k q : IntKind} (a b : Int)
    (ht : P.underlying t = some (.interface ms)) (hc : (P.info? tx).map (·.comparable) = some true) (hx : P.underlying tx = some (.int q)) :
    (binOp .neq t (.iface tx (.int k a)) (.iface tx (.int k b))).run P w = .ok (.bool (!(a == b))) w := by
  cases hi : P.info? tx with
  | none => simp [hi] at hc
  | some i =>
    have hcc : i.comparable = true := by simpa [hi] using hc
    have h : ∀ d : Nat, (Op.equalIn (d + 2) t (.iface tx (.int k a)) (.iface tx (.int k b))).run P w = .ok (a == b) w := fun d => by
      simp [Op.equalIn, run_underlying ht, run_underlying hx, typeInfo, hi, hcc]
    simp only [binOp]
    simp [Op.equal, Op.maxDepth, h 9998]
theorem comp90 : (Tryd.prog.info? 90).map (·.comparable) = some true := by kernel_rfl
theorem under90 : Tryd.prog.underlying 90 = some (.int .i64) := by kernel_rfl
theorem parseInt_empty (w : World) :
    Calls Tryd.prog 49 #[.string ⟨#[]⟩, .int .i64 16, .int .i64 32] w fun e w' => e = .returned (.tuple #[.int .i64 0, errU 2]) ∧ Below w.heap.size w w' := by
  go_enter Tryd.func49, Tryd.ntmps49
  have hn : ((⟨#[]⟩ : ByteArray).toList == ([] : List UInt8)) = true := by decide +kernel
  go_wp2_with go_in
  go_ret2
  exact ⟨rfl, Below.refl _ w⟩
theorem parseInt_plain (s : ByteArray) (v : Nat) (k : Nat) (hv : v ≤ 4294967295) (hk : k ≤ 2) (hk1 : k = 1 → v = 4294967295)
    (h0 : 0 < s.size) (b : Int) (hb : ∀ h : 0 < s.size, ((s[0]'h).toNat : Int) = b) (h43 : (b == 43) = false) (h45 : (b == 45) = false) (w : World)
    (C1 : ∀ W, Calls Tryd.prog 66 #[.string s, .int .i64 16, .int .i64 32] W fun e w' => e = .returned (.tuple #[.int .u64 (v : Int), errU k]) ∧ Below W.heap.size W w')
    (r : Int × Nat) (hr : r = if k = 2 then (0, 2) else (if 2147483648 ≤ v then (2147483647, 1) else ((v : Int), 0))) :
    Calls Tryd.prog 49 #[.string s, .int .i64 16, .int .i64 32] w fun e w' => e = .returned (.tuple #[.int .i64 r.1, errU r.2]) ∧ Below w.heap.size w w' := by
  have hn : (s.toList == ([] : List UInt8)) = false := beq_eq_false_iff_ne.2 (by rw [Lib.toList_data]; intro k; rw [Lib.size_eq, k] at h0; exact absurd h0 (by simp))
  have h0' : (0 < s.size) = True := eq_true h0
  have h0i : (0 < (s.size : Int)) = True := eq_true (by omega)
  have h1' : (1 ≤ s.size) = True := eq_true h0
  have h1i : (1 ≤ (s.size : Int)) = True := eq_true (by omega)
  have e0 : errU 0 = .nilIface := rfl
  have e1 : errU 1 = .iface 90 (.int .i64 1) := rfl
  have e2 : errU 2 = .iface 90 (.int .i64 2) := rfl
  have hn11 : ∀ W, (binOp .neq 33 (.iface 90 (.int .i64 1)) (.iface 90 (.int .i64 1))).run Tryd.prog W = .ok (.bool false) W := fun W => run_neq_iface_int W 1 1 Tryd.underlying33 comp90 under90
  have hn21 : ∀ W, (binOp .neq 33 (.iface 90 (.int .i64 2)) (.iface 90 (.int .i64 1))).run Tryd.prog W = .ok (.bool true) W := fun W => run_neq_iface_int W 2 1 Tryd.underlying33 comp90 under90
  have hwv : IntKind.i64.wrap (v : Int) = (v : Int) := by simp only [IntKind.wrap, IntKind.signed, IntKind.bits]; simp; omega
  have hwn : IntKind.i64.wrap (-(v : Int)) = -(v : Int) := by simp only [IntKind.wrap, IntKind.signed, IntKind.bits]; simp; omega
  go_enter Tryd.func49, Tryd.ntmps49
  rcases (show (k = 0 ∨ k = 1) ∨ k = 2 by omega) with hk0 | rfl
  · by_cases hq : 2147483648 ≤ v
    · rcases hk0 with rfl | rfl
      · have hq1 : decide ((v : Int) ≥ 2147483648) = true := decide_eq_true (by omega)
        have hq2 : decide (2147483648 ≤ (v : Int)) = true := decide_eq_true (by omega)
        simp only [if_pos hq, if_neg (show ¬ (0 : Nat) = 2 by decide)] at hr
        rw [e0] at C1
        subst hr
        simp only [e0, e1, e2]
        go_wp2_with (first | (go_at_call 66; (with_reducible refine (C1 _).mono ?_); rintro e w1 ⟨rfl, hb1⟩) | go_in)
        go_ret2
        exact ⟨rfl, hb1⟩
      · have hq1 : decide ((v : Int) ≥ 2147483648) = true := decide_eq_true (by omega)
        have hq2 : decide (2147483648 ≤ (v : Int)) = true := decide_eq_true (by omega)
        simp only [if_pos hq, if_neg (show ¬ (1 : Nat) = 2 by decide)] at hr
        rw [e1] at C1
        subst hr
        simp only [e0, e1, e2]
        go_wp2_with (first | (go_at_call 66; (with_reducible refine (C1 _).mono ?_); rintro e w1 ⟨rfl, hb1⟩) | go_in)
        go_ret2
        exact ⟨rfl, hb1⟩
    · rcases hk0 with rfl | rfl
      · have hq1 : decide ((v : Int) ≥ 2147483648) = false := decide_eq_false (by omega)
        have hq2 : decide (2147483648 ≤ (v : Int)) = false := decide_eq_false (by omega)
        simp only [if_neg hq, if_neg (show ¬ (0 : Nat) = 2 by decide)] at hr
        rw [e0] at C1
        subst hr
        simp only [e0, e1, e2]
        go_wp2_with (first | (go_at_call 66; (with_reducible refine (C1 _).mono ?_); rintro e w1 ⟨rfl, hb1⟩) | go_in)
        go_ret2
        exact ⟨rfl, hb1⟩
      · exact absurd (hk1 rfl) (by omega)
  · rw [e2] at C1
    rw [if_pos rfl] at hr
    subst hr
    simp only [e0, e1, e2]
    go_wp2_with (first | (go_at_call 66; (with_reducible refine (C1 _).mono ?_); rintro e w1 ⟨rfl, hb1⟩) | go_in)
    go_ret2
    exact ⟨rfl, hb1⟩
theorem parseInt_plus (s : ByteArray) (v : Nat) (k : Nat) (hv : v ≤ 4294967295) (hk : k ≤ 2) (hk1 : k = 1 → v = 4294967295)
    (h0 : 0 < s.size) (b : Int) (hb : ∀ h : 0 < s.size, ((s[0]'h).toNat : Int) = b) (h43 : (b == 43) = true) (w : World)
    (C1 : ∀ W, Calls Tryd.prog 66 #[.string (s.extract 1 s.size), .int .i64 16, .int .i64 32] W fun e w' => e = .returned (.tuple #[.int .u64 (v : Int), errU k]) ∧ Below W.heap.size W w')
    (r : Int × Nat) (hr : r = if k = 2 then (0, 2) else (if 2147483648 ≤ v then (2147483647, 1) else ((v : Int), 0))) :
    Calls Tryd.prog 49 #[.string s, .int .i64 16, .int .i64 32] w fun e w' => e = .returned (.tuple #[.int .i64 r.1, errU r.2]) ∧ Below w.heap.size w w' := by
  have hn : (s.toList == ([] : List UInt8)) = false := beq_eq_false_iff_ne.2 (by rw [Lib.toList_data]; intro k; rw [Lib.size_eq, k] at h0; exact absurd h0 (by simp))
  have h0' : (0 < s.size) = True := eq_true h0
  have h0i : (0 < (s.size : Int)) = True := eq_true (by omega)
  have h1' : (1 ≤ s.size) = True := eq_true h0
  have h1i : (1 ≤ (s.size : Int)) = True := eq_true (by omega)
  have e0 : errU 0 = .nilIface := rfl
  have e1 : errU 1 = .iface 90 (.int .i64 1) := rfl
  have e2 : errU 2 = .iface 90 (.int .i64 2) := rfl
  have hn11 : ∀ W, (binOp .neq 33 (.iface 90 (.int .i64 1)) (.iface 90 (.int .i64 1))).run Tryd.prog W = .ok (.bool false) W := fun W => run_neq_iface_int W 1 1 Tryd.underlying33 comp90 under90
  have hn21 : ∀ W, (binOp .neq 33 (.iface 90 (.int .i64 2)) (.iface 90 (.int .i64 1))).run Tryd.prog W = .ok (.bool true) W := fun W => run_neq_iface_int W 2 1 Tryd.underlying33 comp90 under90
  have hwv : IntKind.i64.wrap (v : Int) = (v : Int) := by simp only [IntKind.wrap, IntKind.signed, IntKind.bits]; simp; omega
  have hwn : IntKind.i64.wrap (-(v : Int)) = -(v : Int) := by simp only [IntKind.wrap, IntKind.signed, IntKind.bits]; simp; omega
  go_enter Tryd.func49, Tryd.ntmps49
  rcases (show (k = 0 ∨ k = 1) ∨ k = 2 by omega) with hk0 | rfl
  · by_cases hq : 2147483648 ≤ v
    · rcases hk0 with rfl | rfl
      · have hq1 : decide ((v : Int) ≥ 2147483648) = true := decide_eq_true (by omega)
        have hq2 : decide (2147483648 ≤ (v : Int)) = true := decide_eq_true (by omega)
        simp only [if_pos hq, if_neg (show ¬ (0 : Nat) = 2 by decide)] at hr
        rw [e0] at C1
        subst hr
        simp only [e0, e1, e2]
        go_wp2_with (first | (go_at_call 66; (with_reducible refine (C1 _).mono ?_); rintro e w1 ⟨rfl, hb1⟩) | go_in)
        go_ret2
        exact ⟨rfl, hb1⟩
      · have hq1 : decide ((v : Int) ≥ 2147483648) = true := decide_eq_true (by omega)
        have hq2 : decide (2147483648 ≤ (v : Int)) = true := decide_eq_true (by omega)
        simp only [if_pos hq, if_neg (show ¬ (1 : Nat) = 2 by decide)] at hr
        rw [e1] at C1
        subst hr
        simp only [e0, e1, e2]
        go_wp2_with (first | (go_at_call 66; (with_reducible refine (C1 _).mono ?_); rintro e w1 ⟨rfl, hb1⟩) | go_in)
        go_ret2
        exact ⟨rfl, hb1⟩
    · rcases hk0 with rfl | rfl
      · have hq1 : decide ((v : Int) ≥ 2147483648) = false := decide_eq_false (by omega)
        have hq2 : decide (2147483648 ≤ (v : Int)) = false := decide_eq_false (by omega)
        simp only [if_neg hq, if_neg (show ¬ (0 : Nat) = 2 by decide)] at hr
        rw [e0] at C1
        subst hr
        simp only [e0, e1, e2]
        go_wp2_with (first | (go_at_call 66; (with_reducible refine (C1 _).mono ?_); rintro e w1 ⟨rfl, hb1⟩) | go_in)
        go_ret2
        exact ⟨rfl, hb1⟩
      · exact absurd (hk1 rfl) (by omega)
  · rw [e2] at C1
    rw [if_pos rfl] at hr
    subst hr
    simp only [e0, e1, e2]
    go_wp2_with (first | (go_at_call 66; (with_reducible refine (C1 _).mono ?_); rintro e w1 ⟨rfl, hb1⟩) | go_in)
    go_ret2
    exact ⟨rfl, hb1⟩
theorem parseInt_minus (s : ByteArray) (v : Nat) (k : Nat) (hv : v ≤ 4294967295) (hk : k ≤ 2) (hk1 : k = 1 → v = 4294967295)
    (h0 : 0 < s.size) (b : Int) (hb : ∀ h : 0 < s.size, ((s[0]'h).toNat : Int) = b) (h43 : (b == 43) = false) (h45 : (b == 45) = true) (w : World)
    (C1 : ∀ W, Calls Tryd.prog 66 #[.string (s.extract 1 s.size), .int .i64 16, .int .i64 32] W fun e w' => e = .returned (.tuple #[.int .u64 (v : Int), errU k]) ∧ Below W.heap.size W w')
    (r : Int × Nat) (hr : r = if k = 2 then (0, 2) else (if 2147483648 < v then (-2147483648, 1) else (-(v : Int), 0))) :
    Calls Tryd.prog 49 #[.string s, .int .i64 16, .int .i64 32] w fun e w' => e = .returned (.tuple #[.int .i64 r.1, errU r.2]) ∧ Below w.heap.size w w' := by
  have hn : (s.toList == ([] : List UInt8)) = false := beq_eq_false_iff_ne.2 (by rw [Lib.toList_data]; intro k; rw [Lib.size_eq, k] at h0; exact absurd h0 (by simp))
  have h0' : (0 < s.size) = True := eq_true h0
  have h0i : (0 < (s.size : Int)) = True := eq_true (by omega)
  have h1' : (1 ≤ s.size) = True := eq_true h0
  have h1i : (1 ≤ (s.size : Int)) = True := eq_true (by omega)
  have e0 : errU 0 = .nilIface := rfl
  have e1 : errU 1 = .iface 90 (.int .i64 1) := rfl
  have e2 : errU 2 = .iface 90 (.int .i64 2) := rfl
  have hn11 : ∀ W, (binOp .neq 33 (.iface 90 (.int .i64 1)) (.iface 90 (.int .i64 1))).run Tryd.prog W = .ok (.bool false) W := fun W => run_neq_iface_int W 1 1 Tryd.underlying33 comp90 under90
  have hn21 : ∀ W, (binOp .neq 33 (.iface 90 (.int .i64 2)) (.iface 90 (.int .i64 1))).run Tryd.prog W = .ok (.bool true) W := fun W => run_neq_iface_int W 2 1 Tryd.underlying33 comp90 under90
  have hwv : IntKind.i64.wrap (v : Int) = (v : Int) := by simp only [IntKind.wrap, IntKind.signed, IntKind.bits]; simp; omega
  have hwn : IntKind.i64.wrap (-(v : Int)) = -(v : Int) := by simp only [IntKind.wrap, IntKind.signed, IntKind.bits]; simp; omega
  go_enter Tryd.func49, Tryd.ntmps49
  rcases (show (k = 0 ∨ k = 1) ∨ k = 2 by omega) with hk0 | rfl
  · by_cases hq : 2147483648 < v
    · rcases hk0 with rfl | rfl
      · have hq1 : decide ((v : Int) > 2147483648) = true := decide_eq_true (by omega)
        have hq2 : decide (2147483648 < (v : Int)) = true := decide_eq_true (by omega)
        simp only [if_pos hq, if_neg (show ¬ (0 : Nat) = 2 by decide)] at hr
        rw [e0] at C1
        subst hr
        simp only [e0, e1, e2]
        go_wp2_with (first | (go_at_call 66; (with_reducible refine (C1 _).mono ?_); rintro e w1 ⟨rfl, hb1⟩) | go_in)
        go_ret2
        exact ⟨rfl, hb1⟩
      · have hq1 : decide ((v : Int) > 2147483648) = true := decide_eq_true (by omega)
        have hq2 : decide (2147483648 < (v : Int)) = true := decide_eq_true (by omega)
        simp only [if_pos hq, if_neg (show ¬ (1 : Nat) = 2 by decide)] at hr
        rw [e1] at C1
        subst hr
        simp only [e0, e1, e2]
        go_wp2_with (first | (go_at_call 66; (with_reducible refine (C1 _).mono ?_); rintro e w1 ⟨rfl, hb1⟩) | go_in)
        go_ret2
        exact ⟨rfl, hb1⟩
    · rcases hk0 with rfl | rfl
      · have hq1 : decide ((v : Int) > 2147483648) = false := decide_eq_false (by omega)
        have hq2 : decide (2147483648 < (v : Int)) = false := decide_eq_false (by omega)
        simp only [if_neg hq, if_neg (show ¬ (0 : Nat) = 2 by decide)] at hr
        rw [e0] at C1
        subst hr
        simp only [e0, e1, e2]
        go_wp2_with (first | (go_at_call 66; (with_reducible refine (C1 _).mono ?_); rintro e w1 ⟨rfl, hb1⟩) | go_in)
        go_ret2
        exact ⟨rfl, hb1⟩
      · exact absurd (hk1 rfl) (by omega)
  · rw [e2] at C1
    rw [if_pos rfl] at hr
    subst hr
    simp only [e0, e1, e2]
    go_wp2_with (first | (go_at_call 66; (with_reducible refine (C1 _).mono ?_); rintro e w1 ⟨rfl, hb1⟩) | go_in)
    go_ret2
    exact ⟨rfl, hb1⟩
theorem pV_of (s : ByteArray) (hs : s.size ≤ 1000000000) (w : World) :
    Calls Tryd.prog 66 #[.string s, .int .i64 16, .int .i64 32] w fun e w' => e = .returned (.tuple #[.int .u64 ((pV s.data.toList).1 : Int), errU (pV s.data.toList).2]) ∧ Below w.heap.size w w' := by
  by_cases h : s.data.toList = []
  · have e : s = ⟨#[]⟩ := by
      cases s with
      | mk d => exact congrArg ByteArray.mk (Array.toList_inj.1 (by simpa using h))
    subst e
    exact parseUint_empty w
  · rw [show pV s.data.toList = pU s.data.toList 0 from if_neg h]
    exact parseUint_walk s h hs w
theorem ext_list (s : ByteArray) (c : UInt8) (l : List UInt8) (h : s.data.toList = c :: l) : (s.extract 1 s.size).data.toList = l := by
  rw [ByteArray.data_extract, Array.toList_extract, List.extract_eq_take_drop, h]
  have : s.size = l.length + 1 := by rw [Lib.size_eq, h]; rfl
  rw [this]
  simp
theorem ext_size (s : ByteArray) : (s.extract 1 s.size).size ≤ s.size := by
  rw [ByteArray.size_extract]
  omega
theorem parseInt_all (s : ByteArray) (hs : s.size ≤ 1000000000) (w : World) :
    Calls Tryd.prog 49 #[.string s, .int .i64 16, .int .i64 32] w fun e w' => e = .returned (.tuple #[.int .i64 (pI s.data.toList).1, errU (pI s.data.toList).2]) ∧ Below w.heap.size w w' := by
  cases h : s.data.toList with
  | nil =>
    have e : s = ⟨#[]⟩ := by
      cases s with
      | mk d => exact congrArg ByteArray.mk (Array.toList_inj.1 (by simpa using h))
    subst e
    exact parseInt_empty w
  | cons c l =>
    have h0 : 0 < s.size := by rw [Lib.size_eq, h]; exact Nat.zero_lt_succ _
    have hb : ∀ k : 0 < s.size, ((s[0]'k).toNat : Int) = (c.toNat : Int) := fun k => by
      have : s[0]'k = s.data.toList[0]'(by rw [← Lib.size_eq]; exact k) := by rw [Array.getElem_toList]; rfl
      rw [this]
      simp only [h, List.getElem_cons_zero]
    have hx := ext_list s c l h
    have hxs := ext_size s
    have hne : ∀ n : Nat, n < 256 → c ≠ UInt8.ofNat n → (((c.toNat : Int) == (n : Int)) = false) := fun n hn k => beq_eq_false_iff_ne.2 (fun q => k (by rw [← UInt8.ofNat_toNat (x := c), show c.toNat = n by omega]))
    rw [show pI (c :: l) = if c = 43 then pS false l else if c = 45 then pS true l else pS false (c :: l) from rfl]
    by_cases h43 : c = 43
    · rw [if_pos h43]
      obtain ⟨f1, f2, f3, f4⟩ := pV_facts l
      refine parseInt_plus s (pV l).1 (pV l).2 f1 f2 f3 h0 _ hb (by rw [h43]; rfl) w (fun W => ?_) _ rfl
      have := pV_of (s.extract 1 s.size) (by omega) W
      rw [hx] at this
      exact this
    · rw [if_neg h43]
      by_cases h45 : c = 45
      · rw [if_pos h45]
        obtain ⟨f1, f2, f3, f4⟩ := pV_facts l
        refine parseInt_minus s (pV l).1 (pV l).2 f1 f2 f3 h0 _ hb (hne 43 (by omega) h43) (by rw [h45]; rfl) w (fun W => ?_) _ rfl
        have := pV_of (s.extract 1 s.size) (by omega) W
        rw [hx] at this
        exact this
      · rw [if_neg h45]
        obtain ⟨f1, f2, f3, f4⟩ := pV_facts (c :: l)
        refine parseInt_plain s (pV (c :: l)).1 (pV (c :: l)).2 f1 f2 f3 h0 _ hb (hne 43 (by omega) h43) (hne 45 (by omega) h45) w (fun W => ?_) _ rfl
        have := pV_of s hs W
        rw [h] at this
        exact this
theorem pS_facts (g : Bool) (l : List UInt8) : -2147483648 ≤ (pS g l).1 ∧ (pS g l).1 ≤ 2147483647 ∧ (pS g l).2 ≤ 2 := by
  unfold pS
  split
  · simp
  · split
    · split
      · simp
      · simp only; omega
    · split
      · simp
      · simp only; omega
theorem pI_facts (l : List UInt8) : -2147483648 ≤ (pI l).1 ∧ (pI l).1 ≤ 2147483647 ∧ (pI l).2 ≤ 2 := by
  unfold pI
  split
  · simp
  · split
    · exact pS_facts _ _
    · split
      · exact pS_facts _ _
      · exact pS_facts _ _
theorem parseInt37_ok (s : ByteArray) (v : Int) (w : World)
    (C1 : ∀ W, Calls Tryd.prog 49 #[.string s, .int .i64 16, .int .i64 32] W fun e w' => e = .returned (.tuple #[.int .i64 v, .nilIface]) ∧ Below W.heap.size W w') :
    Calls Tryd.prog 37 #[.string s, .int .i64 16, .int .i64 32] w fun e w' => e = .returned (.tuple #[.int .i64 v, .nilIface]) ∧ Below w.heap.size w w' := by
  go_enter Tryd.func37, Tryd.ntmps37
  go_wp2_with (go_at_call 49; (with_reducible refine (C1 _).mono ?_); rintro e w1 ⟨rfl, hb1⟩)
  go_ret2
  exact ⟨rfl, hb1⟩
theorem parseInt37_err (s : ByteArray) (v : Int) (k : Int) (w : World) (hT : Tabs w)
    (C1 : ∀ W, Calls Tryd.prog 49 #[.string s, .int .i64 16, .int .i64 32] W fun e w' => e = .returned (.tuple #[.int .i64 v, .iface 90 (.int .i64 k)]) ∧ Below W.heap.size W w')
    (C2 : ∀ W, Tabs W → Calls Tryd.prog 50 #[.string ⟨#[80, 97, 114, 115, 101, 73, 110, 116]⟩, .string s, .int .i64 16, .int .i64 32, .iface 90 (.int .i64 k)] W fun e w' => ∃ N, e = .returned (.iface 93 (.pointer (some ⟨N, 0, none⟩))) ∧ Below W.heap.size W w') :
    Calls Tryd.prog 37 #[.string s, .int .i64 16, .int .i64 32] w fun e w' => ∃ N, e = .returned (.tuple #[.int .i64 v, .iface 93 (.pointer (some ⟨N, 0, none⟩))]) ∧ Below w.heap.size w w' := by
  go_enter Tryd.func37, Tryd.ntmps37
  go_wp2_with (first | (go_at_call 49; (with_reducible refine (C1 _).mono ?_); rintro e w1 ⟨rfl, hb1⟩) | (go_at_call 50; (with_reducible refine (C2 _ (hT.below hb1)).mono ?_); rintro e w2 ⟨N, rfl, hb2⟩))
  go_ret2
  exact ⟨N, rfl, hb1.trans (hb2.mono hb1.size)⟩
theorem parseInt37_all (s : ByteArray) (hs : s.size ≤ 1000000000) (w : World) (hT : Tabs w) :
    ((pI s.data.toList).2 = 0 ∧ Calls Tryd.prog 37 #[.string s, .int .i64 16, .int .i64 32] w fun e w' => e = .returned (.tuple #[.int .i64 (pI s.data.toList).1, .nilIface]) ∧ Below w.heap.size w w')
    ∨ ((pI s.data.toList).2 ≠ 0 ∧ Calls Tryd.prog 37 #[.string s, .int .i64 16, .int .i64 32] w fun e w' => ∃ N, e = .returned (.tuple #[.int .i64 (pI s.data.toList).1, .iface 93 (.pointer (some ⟨N, 0, none⟩))]) ∧ Below w.heap.size w w') := by
  have hp := parseInt_all s hs
  obtain ⟨_, _, h2⟩ := pI_facts s.data.toList
  generalize pI s.data.toList = p at hp h2 ⊢
  obtain ⟨v, k⟩ := p
  rcases (show k = 0 ∨ k = 1 ∨ k = 2 by simp only at h2; omega) with rfl | rfl | rfl
  · exact Or.inl ⟨rfl, parseInt37_ok s v w hp⟩
  · refine Or.inr ⟨by simp, parseInt37_err s v 1 w hT hp fun W hW => ?_⟩
    obtain ⟨te, pe, hv⟩ := hW.errR
    exact (Tryd.strconv_toError_range _ s 16 32 _ W (by omega) hv (Or.inr ⟨te, pe, rfl⟩)).mono fun e w' h => h.elim fun N h => ⟨N, h.1, h.2.2.2⟩
  · refine Or.inr ⟨by simp, parseInt37_err s v 2 w hT hp fun W hW => ?_⟩
    obtain ⟨te, pe, hv⟩ := hW.errS
    exact (Tryd.strconv_toError_syntax _ s 16 32 _ W (by omega) hv (Or.inr ⟨te, pe, rfl⟩)).mono fun e w' h => h.elim fun N h => ⟨N, h.1, h.2.2.2⟩
end Go.Proofs.YtenngdkgahngjaaDoor.All
