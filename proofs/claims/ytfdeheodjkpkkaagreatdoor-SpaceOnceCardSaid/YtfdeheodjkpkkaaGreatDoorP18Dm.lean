/- Decimals as plain mathematics: digits, right forms, texts, order. Nothing of the program. -/
import Derived.Lib.ItoaNum
import Derived.Lib.AtoiAll
import Derived.Lib.Small
import Derived.Lib.Bytealg
import Derived.Lib.IndexMore
import Derived.RowKit
set_option linter.unusedVariables false
set_option linter.unusedSimpArgs false
set_option linter.unusedSectionVars false
namespace Go.Proofs.YtfdeheodjkpkkaaGreatDoor.Dm
open Go.Lib

/-! ### Powers of ten -/
theorem pow10_pos (k : Nat) : 1 ≤ 10 ^ k := Nat.one_le_pow _ _ (by decide)
theorem pow10_le {a b : Nat} (h : a ≤ b) : 10 ^ a ≤ 10 ^ b := Nat.pow_le_pow_right (by decide) h

/-! ### Rows of digits -/
def isDig (c : UInt8) : Prop := 48 ≤ c.toNat ∧ c.toNat ≤ 57
def ofDigits (l : List UInt8) : Nat := l.foldl (fun a c => a * 10 + (c.toNat - 48)) 0
theorem foldl_digits (l : List UInt8) : ∀ a : Nat, l.foldl (fun a c => a * 10 + (c.toNat - 48)) a = a * 10 ^ l.length + ofDigits l := by
  induction l with
  | nil => intro a; simp [ofDigits]
  | cons c l ih =>
    intro a
    simp only [List.foldl_cons, List.length_cons, ofDigits]
    rw [ih, ih (0 * 10 + (c.toNat - 48)), Nat.pow_succ, Nat.add_mul, Nat.zero_mul, Nat.zero_add, Nat.mul_assoc, Nat.mul_comm 10 (10 ^ l.length), Nat.add_assoc]
theorem ofDigits_cons (c : UInt8) (l : List UInt8) : ofDigits (c :: l) = (c.toNat - 48) * 10 ^ l.length + ofDigits l := by
  have := foldl_digits l (0 * 10 + (c.toNat - 48))
  rw [Nat.zero_mul, Nat.zero_add] at this
  simpa [ofDigits] using this
theorem ofDigits_snoc (l : List UInt8) (c : UInt8) : ofDigits (l ++ [c]) = ofDigits l * 10 + (c.toNat - 48) := by
  simp [ofDigits, List.foldl_append]
theorem ofDigits_lt : ∀ (l : List UInt8), (∀ c ∈ l, isDig c) → ofDigits l < 10 ^ l.length
  | [], _ => by simp [ofDigits]
  | c :: l, h => by
    have h1 := ofDigits_lt l (fun x hx => h x (List.mem_cons_of_mem _ hx))
    have h2 := (h c (List.mem_cons_self)).2
    rw [ofDigits_cons, List.length_cons, Nat.pow_succ]
    have h3 : (c.toNat - 48) * 10 ^ l.length ≤ 9 * 10 ^ l.length := Nat.mul_le_mul_right _ (by omega)
    omega
theorem toNat_dig {d : Nat} (h : d < 10) : (UInt8.ofNat (48 + d)).toNat = 48 + d := by
  simp [UInt8.toNat_ofNat]
  omega
theorem isDig_dig {d : Nat} (h : d < 10) : isDig (UInt8.ofNat (48 + d)) := by
  unfold isDig
  rw [toNat_dig h]
  omega
theorem decDigits_small {u : Nat} (h : u < 10) : decDigits u = [UInt8.ofNat (48 + u)] := by rw [decDigits, dif_pos h]
theorem decDigits_big {u : Nat} (h : ¬ u < 10) : decDigits u = decDigits (u / 10) ++ [UInt8.ofNat (48 + u % 10)] := by rw [decDigits, dif_neg h]
theorem decDigits_dig (u : Nat) : ∀ c ∈ decDigits u, isDig c := by
  induction u using Nat.strongRecOn with
  | _ u ih =>
    by_cases h : u < 10
    · rw [decDigits_small h]
      intro c hc
      rw [List.mem_singleton.1 hc]
      exact isDig_dig h
    · rw [decDigits_big h]
      intro c hc
      rcases List.mem_append.1 hc with hc | hc
      · exact ih (u / 10) (by omega) c hc
      · rw [List.mem_singleton.1 hc]
        exact isDig_dig (by omega)
theorem ofDigits_decDigits (u : Nat) : ofDigits (decDigits u) = u := by
  induction u using Nat.strongRecOn with
  | _ u ih =>
    by_cases h : u < 10
    · rw [decDigits_small h, ofDigits_cons, toNat_dig h]
      simp [ofDigits]
    · rw [decDigits_big h, ofDigits_snoc, ih (u / 10) (by omega), toNat_dig (by omega)]
      omega
theorem decDigits_ne_nil (u : Nat) : decDigits u ≠ [] := by
  by_cases h : u < 10
  · rw [decDigits_small h]; simp
  · rw [decDigits_big h]; simp
theorem pow_nDigits_le : ∀ (u : Nat), 1 ≤ u → 10 ^ (nDigits u - 1) ≤ u := by
  intro u
  induction u using Nat.strongRecOn with
  | _ u ih =>
    intro h1
    by_cases h : u < 10
    · rw [nDigits_small h]; simpa using h1
    · rw [nDigits_big h, Nat.add_sub_cancel]
      have h2 := ih (u / 10) (by omega) (by omega)
      have h3 := nDigits_pos (u / 10)
      obtain ⟨p, hp⟩ : ∃ p, nDigits (u / 10) = p + 1 := ⟨nDigits (u / 10) - 1, by omega⟩
      rw [hp, Nat.add_sub_cancel] at h2
      rw [hp, Nat.pow_succ]
      omega
theorem nDigits_le {u k : Nat} (hk : 1 ≤ k) (h : u < 10 ^ k) : nDigits u ≤ k := by
  by_cases h1 : 1 ≤ u
  · by_cases h2 : nDigits u ≤ k
    · exact h2
    · have := pow_nDigits_le u h1
      have := pow10_le (show k ≤ nDigits u - 1 by omega)
      omega
  · rw [nDigits_small (by omega)]
    exact hk
/-- The last digit of a number that ten doesn't divide isn't a nought. -/
def tailOK (l : List UInt8) : Prop := ∀ c, l.getLast? = some c → c.toNat ≠ 48
theorem decDigits_tail {u : Nat} (h : u % 10 ≠ 0) : tailOK (decDigits u) := by
  intro c hc
  by_cases h1 : u < 10
  · rw [decDigits_small h1] at hc
    simp only [List.getLast?_singleton, Option.some.injEq] at hc
    subst hc
    rw [toNat_dig h1]
    omega
  · rw [decDigits_big h1] at hc
    simp only [List.getLast?_concat, Option.some.injEq] at hc
    subst hc
    rw [toNat_dig (by omega)]
    omega
theorem tailOK_cons {a : UInt8} {l : List UInt8} (h : tailOK (a :: l)) : tailOK l := by
  intro c hc
  cases l with
  | nil => simp at hc
  | cons b l => exact h c (by simpa using hc)
theorem ofDigits_pos : ∀ (l : List UInt8), l ≠ [] → (∀ c ∈ l, isDig c) → tailOK l → 1 ≤ ofDigits l
  | [c], _, h, ht => by
    have h1 := ht c rfl
    have h2 := h c (List.mem_singleton_self c)
    rw [ofDigits_cons]
    simp [ofDigits]
    unfold isDig at h2
    omega
  | c :: b :: l, _, h, ht => by
    have := ofDigits_pos (b :: l) (by simp) (fun x hx => h x (List.mem_cons_of_mem _ hx)) (tailOK_cons ht)
    rw [ofDigits_cons]
    omega

theorem cmpI_lt {x y : Int} (h : x < y) : compareInt x y = -1 := by unfold compareInt; rw [if_pos h]
theorem cmpI_gt {x y : Int} (h : y < x) : compareInt x y = 1 := by unfold compareInt; rw [if_neg (by omega), if_pos h]
theorem cmpI_eq {x y : Int} (h : x = y) : compareInt x y = 0 := by unfold compareInt; rw [if_neg (by omega), if_neg (by omega)]

/-- Rows of digits without noughts at their end stand to each other as the numbers that they begin. -/
theorem compareBytes_digits : ∀ (x y : List UInt8) (L : Nat), (∀ c ∈ x, isDig c) → (∀ c ∈ y, isDig c) → tailOK x → tailOK y → x.length ≤ L → y.length ≤ L →
    compareBytes x y = compareInt ((ofDigits x * 10 ^ (L - x.length) : Nat) : Int) ((ofDigits y * 10 ^ (L - y.length) : Nat) : Int)
  | [], [], L, _, _, _, _, _, _ => by simp [compareBytes, ofDigits, compareInt]
  | [], b :: y, L, _, hy, _, ty, _, _ => by
    have h1 := ofDigits_pos (b :: y) (by simp) hy ty
    have h2 : 1 * 1 ≤ ofDigits (b :: y) * 10 ^ (L - (b :: y).length) := Nat.mul_le_mul h1 (pow10_pos _)
    rw [cmpI_lt (by simp only [ofDigits, List.foldl_nil, Nat.zero_mul] at h2 ⊢; omega)]
    rfl
  | a :: x, [], L, hx, _, tx, _, _, _ => by
    have h1 := ofDigits_pos (a :: x) (by simp) hx tx
    have h2 : 1 * 1 ≤ ofDigits (a :: x) * 10 ^ (L - (a :: x).length) := Nat.mul_le_mul h1 (pow10_pos _)
    rw [cmpI_gt (by simp only [ofDigits, List.foldl_nil, Nat.zero_mul] at h2 ⊢; omega)]
    rfl
  | a :: x, b :: y, L, hx, hy, tx, ty, lx, ly => by
    have hxd := fun c hc => hx c (List.mem_cons_of_mem _ hc)
    have hyd := fun c hc => hy c (List.mem_cons_of_mem _ hc)
    obtain ⟨M, rfl⟩ : ∃ M, L = M + 1 := ⟨L - 1, by simp at lx; omega⟩
    simp only [List.length_cons, Nat.add_le_add_iff_right] at lx ly
    have ih := compareBytes_digits x y M hxd hyd (tailOK_cons tx) (tailOK_cons ty) lx ly
    have ex : ofDigits (a :: x) * 10 ^ (M + 1 - (a :: x).length) = (a.toNat - 48) * 10 ^ M + ofDigits x * 10 ^ (M - x.length) := by
      rw [ofDigits_cons, List.length_cons, Nat.add_sub_add_right, Nat.add_mul, Nat.mul_assoc, ← Nat.pow_add, Nat.add_sub_cancel' lx]
    have ey : ofDigits (b :: y) * 10 ^ (M + 1 - (b :: y).length) = (b.toNat - 48) * 10 ^ M + ofDigits y * 10 ^ (M - y.length) := by
      rw [ofDigits_cons, List.length_cons, Nat.add_sub_add_right, Nat.add_mul, Nat.mul_assoc, ← Nat.pow_add, Nat.add_sub_cancel' ly]
    have bx : ofDigits x * 10 ^ (M - x.length) < 10 ^ M := by
      have h1 := Nat.mul_lt_mul_of_pos_right (ofDigits_lt x hxd) (pow10_pos (M - x.length))
      rwa [← Nat.pow_add, Nat.add_sub_cancel' lx] at h1
    have byy : ofDigits y * 10 ^ (M - y.length) < 10 ^ M := by
      have h1 := Nat.mul_lt_mul_of_pos_right (ofDigits_lt y hyd) (pow10_pos (M - y.length))
      rwa [← Nat.pow_add, Nat.add_sub_cancel' ly] at h1
    have ha := hx a (List.mem_cons_self)
    have hb := hy b (List.mem_cons_self)
    unfold isDig at ha hb
    rw [ex, ey]
    unfold compareBytes
    by_cases h1 : a < b
    · rw [if_pos h1]
      have h2 := UInt8.lt_iff_toNat_lt.1 h1
      have h3 : (a.toNat - 48 + 1) * 10 ^ M ≤ (b.toNat - 48) * 10 ^ M := Nat.mul_le_mul_right _ (by omega)
      rw [Nat.add_mul, Nat.one_mul] at h3
      rw [cmpI_lt (by omega)]
    · rw [if_neg h1]
      by_cases h2 : b < a
      · rw [if_pos h2]
        have h2 := UInt8.lt_iff_toNat_lt.1 h2
        have h3 : (b.toNat - 48 + 1) * 10 ^ M ≤ (a.toNat - 48) * 10 ^ M := Nat.mul_le_mul_right _ (by omega)
        rw [Nat.add_mul, Nat.one_mul] at h3
        rw [cmpI_gt (by omega)]
      · rw [if_neg h2, ih]
        have h3 : a.toNat = b.toNat := by
          have k1 : ¬ a.toNat < b.toNat := fun k => h1 (UInt8.lt_iff_toNat_lt.2 k)
          have k2 : ¬ b.toNat < a.toNat := fun k => h2 (UInt8.lt_iff_toNat_lt.2 k)
          omega
        rw [h3]
        unfold compareInt
        have k1 : (((ofDigits x * 10 ^ (M - x.length) : Nat) : Int) < ((ofDigits y * 10 ^ (M - y.length) : Nat) : Int)) ↔ ((((b.toNat - 48) * 10 ^ M + ofDigits x * 10 ^ (M - x.length) : Nat) : Int) < (((b.toNat - 48) * 10 ^ M + ofDigits y * 10 ^ (M - y.length) : Nat) : Int)) := by omega
        have k2 : (((ofDigits x * 10 ^ (M - x.length) : Nat) : Int) > ((ofDigits y * 10 ^ (M - y.length) : Nat) : Int)) ↔ ((((b.toNat - 48) * 10 ^ M + ofDigits x * 10 ^ (M - x.length) : Nat) : Int) > (((b.toNat - 48) * 10 ^ M + ofDigits y * 10 ^ (M - y.length) : Nat) : Int)) := by omega
        simp only [k1, k2]

/-! ### What a number's digits and its exponent tell of its size -/
theorem size_lt {u v eu ev : Nat} (hv : 1 ≤ v) (h : nDigits u + eu < nDigits v + ev) : u * 10 ^ eu < v * 10 ^ ev := by
  have h1 : u * 10 ^ eu < 10 ^ nDigits u * 10 ^ eu := Nat.mul_lt_mul_of_pos_right (lt_pow_nDigits u) (pow10_pos _)
  have h2 : 10 ^ (nDigits v - 1) * 10 ^ ev ≤ v * 10 ^ ev := Nat.mul_le_mul_right _ (pow_nDigits_le v hv)
  rw [← Nat.pow_add] at h1 h2
  have h3 := nDigits_pos v
  have h4 := pow10_le (show nDigits u + eu ≤ nDigits v - 1 + ev by omega)
  omega
/-- The comparison that the program makes, of numbers above 0 that ten doesn't divide. -/
theorem above_eq {u v eu ev : Nat} (hu : u % 10 ≠ 0) (hv : v % 10 ≠ 0) :
    (if compareInt ((nDigits u + eu : Nat) : Int) ((nDigits v + ev : Nat) : Int) = 0 then compareBytes (decDigits u) (decDigits v) else compareInt ((nDigits u + eu : Nat) : Int) ((nDigits v + ev : Nat) : Int)) =
      compareInt ((u * 10 ^ eu : Nat) : Int) ((v * 10 ^ ev : Nat) : Int) := by
  rcases Nat.lt_trichotomy (nDigits u + eu) (nDigits v + ev) with h | h | h
  · rw [cmpI_lt (by omega), if_neg (by decide)]
    have := size_lt (u := u) (v := v) (by omega) h
    rw [cmpI_lt (by omega)]
  · rw [cmpI_eq (by omega), if_pos rfl]
    have := compareBytes_digits (decDigits u) (decDigits v) (nDigits u + eu) (decDigits_dig u) (decDigits_dig v) (decDigits_tail hu) (decDigits_tail hv) (by rw [decDigits_length]; omega) (by rw [decDigits_length]; omega)
    rw [this, ofDigits_decDigits, ofDigits_decDigits, decDigits_length, decDigits_length, Nat.add_sub_cancel_left, h, Nat.add_sub_cancel_left]
  · rw [cmpI_gt (by omega), if_neg (by decide)]
    have := size_lt (u := v) (v := u) (by omega) h
    rw [cmpI_gt (by omega)]

/-! ### Texts of whole numbers -/
/-! ### Cutting at an E -/
/-! ### Right forms -/
def strip (m e : Int) : Int × Int := if h : m ≠ 0 ∧ Int.tmod m 10 = 0 ∧ e ≤ 32767 then strip (Int.tdiv m 10) (e + 1) else (m, e)
termination_by m.natAbs
decreasing_by
  rw [Int.natAbs_tdiv]
  have : m.natAbs ≠ 0 := fun k => h.1 (Int.natAbs_eq_zero.1 k)
  show m.natAbs / 10 < m.natAbs
  omega
def normD (m e : Int) : Int × Int × Bool :=
  if m = 0 then (0, 0, true) else if (strip m e).2 < -32768 then (0, 0, false) else if (strip m e).2 > 32767 then (0, 0, false) else ((strip m e).1, (strip m e).2, true)
def isRight (m e : Int) : Prop := (m = 0 ∧ e = 0) ∨ (m ≠ 0 ∧ Int.tmod m 10 ≠ 0 ∧ -32768 ≤ e ∧ e ≤ 32767)
instance (m e : Int) : Decidable (isRight m e) := by unfold isRight; infer_instance
theorem strip_go {m e : Int} (h : m ≠ 0 ∧ Int.tmod m 10 = 0 ∧ e ≤ 32767) : strip m e = strip (Int.tdiv m 10) (e + 1) := by rw [strip, dif_pos h]
theorem strip_stop {m e : Int} (h : ¬ (m ≠ 0 ∧ Int.tmod m 10 = 0 ∧ e ≤ 32767)) : strip m e = (m, e) := by rw [strip, dif_neg h]
theorem tdiv_ne {m : Int} (h : m ≠ 0) (h1 : Int.tmod m 10 = 0) : Int.tdiv m 10 ≠ 0 := by
  have := Int.tmod_add_mul_tdiv m 10
  intro k
  rw [k, h1] at this
  omega
theorem strip_spec (m e : Int) (hm : m ≠ 0) : (strip m e).1 ≠ 0 ∧ e ≤ (strip m e).2 ∧ m = (strip m e).1 * 10 ^ ((strip m e).2 - e).toNat ∧ (Int.tmod (strip m e).1 10 ≠ 0 ∨ 32767 < (strip m e).2) ∧ (e ≤ 32768 → (strip m e).2 ≤ 32768) ∧ (strip m e).1.natAbs ≤ m.natAbs := by
  induction hk : m.natAbs using Nat.strongRecOn generalizing m e with
  | _ k ih =>
    subst hk
    by_cases h : m ≠ 0 ∧ Int.tmod m 10 = 0 ∧ e ≤ 32767
    · rw [strip_go h]
      have hd := tdiv_ne hm h.2.1
      have hlt : (Int.tdiv m 10).natAbs < m.natAbs := by
        rw [Int.natAbs_tdiv]
        have : m.natAbs ≠ 0 := fun k => hm (Int.natAbs_eq_zero.1 k)
        show m.natAbs / 10 < m.natAbs
        omega
      obtain ⟨a1, a2, a3, a4, a5, a6⟩ := ih _ hlt (Int.tdiv m 10) (e + 1) hd rfl
      refine ⟨a1, by omega, ?_, a4, fun h5 => a5 (by omega), by omega⟩
      have h6 := Int.tmod_add_mul_tdiv m 10
      rw [h.2.1, Int.zero_add] at h6
      have h7 : ((strip (Int.tdiv m 10) (e + 1)).2 - e).toNat = ((strip (Int.tdiv m 10) (e + 1)).2 - (e + 1)).toNat + 1 := by omega
      rw [h7, Int.pow_succ, ← Int.mul_assoc, ← a3]
      omega
    · rw [strip_stop h]
      refine ⟨hm, Int.le_refl _, by simp, ?_, fun h => h, Nat.le_refl _⟩
      by_cases h1 : Int.tmod m 10 = 0
      · right
        have : ¬ (e ≤ 32767) := fun k => h ⟨hm, h1, k⟩
        simp only
        omega
      · exact .inl h1
theorem normD_right {m e m' e' : Int} (h : normD m e = (m', e', true)) : isRight m' e' := by
  unfold normD at h
  by_cases h0 : m = 0
  · rw [if_pos h0] at h
    simp only [Prod.mk.injEq, and_true] at h
    exact .inl ⟨h.1.symm, h.2.symm⟩
  · rw [if_neg h0] at h
    obtain ⟨a1, a2, a3, a4, a5, a6⟩ := strip_spec m e h0
    by_cases h1 : (strip m e).2 < -32768
    · rw [if_pos h1] at h; simp at h
    · rw [if_neg h1] at h
      by_cases h2 : (strip m e).2 > 32767
      · rw [if_pos h2] at h; simp at h
      · rw [if_neg h2] at h
        simp only [Prod.mk.injEq, and_true] at h
        obtain ⟨rfl, rfl⟩ := h
        exact .inr ⟨a1, by omega, by omega, by omega⟩
theorem normD_of_right {m e : Int} (h : isRight m e) : normD m e = (m, e, true) := by
  unfold normD
  rcases h with ⟨rfl, rfl⟩ | ⟨h0, h1, h2, h3⟩
  · rfl
  · rw [if_neg h0, strip_stop (fun k => h1 k.2.1), if_neg (by simp only; omega), if_neg (by simp only; omega)]
theorem normD_false {m e : Int} {x : Int × Int × Bool} (h : normD m e = x) (hx : x.2.2 = false) : x = (0, 0, false) := by
  unfold normD at h
  split at h
  · subst h; cases hx
  · split at h
    · exact h.symm
    · split at h
      · exact h.symm
      · subst h; cases hx
def rightD (m e : Int) : Bool := (normD m e).2.2 && ((normD m e).1 == m && ((normD m e).2.1 == e))
theorem rightD_iff (m e : Int) : rightD m e = true ↔ isRight m e := by
  constructor
  · intro h
    unfold rightD at h
    rcases hn : normD m e with ⟨m', e', b⟩
    rw [hn] at h
    simp only [Bool.and_eq_true, beq_iff_eq] at h
    obtain ⟨rfl, rfl, rfl⟩ := h
    exact normD_right hn
  · intro h
    unfold rightD
    rw [normD_of_right h]
    simp
theorem rightD_eq (m e : Int) : rightD m e = decide (isRight m e) := by
  by_cases h : isRight m e
  · rw [(rightD_iff m e).2 h, decide_eq_true h]
  · rw [decide_eq_false h]
    cases hr : rightD m e with
    | false => rfl
    | true => exact absurd ((rightD_iff m e).1 hr) h
/-! ### Values, scaled -/
def scale (e : Int) : Nat := (e + 32768).toNat
def val (m e : Int) : Int := m * 10 ^ scale e
def clean (m e : Int) : Int × Int := if isRight m e then (m, e) else (0, 0)
def cmpD (am ae bm be : Int) : Int := compareInt (val (clean am ae).1 (clean am ae).2) (val (clean bm be).1 (clean bm be).2)
def whole (m e : Int) : Int × Bool :=
  if isRight m e ∧ 0 ≤ e ∧ e ≤ 18 ∧ -9223372036854775808 ≤ m * 10 ^ e.toNat ∧ m * 10 ^ e.toNat ≤ 9223372036854775807 then (m * 10 ^ e.toNat, true) else (0, false)
theorem compareInt_neg (x y : Int) : compareInt (-x) (-y) = -compareInt x y := by
  rcases Int.lt_trichotomy x y with h | h | h
  · rw [cmpI_lt h, cmpI_gt (by omega)]; rfl
  · rw [cmpI_eq h, cmpI_eq (by omega)]; rfl
  · rw [cmpI_gt h, cmpI_lt (by omega)]
theorem pow_scale_pos (e : Int) : (0 : Int) < 10 ^ scale e := Int.pow_pos (by decide)
theorem val_pow (m : Int) (k : Nat) : m * (10 : Int) ^ k = m * ((10 ^ k : Nat) : Int) := by rw [Int.natCast_pow]; rfl
theorem isRight_zero : isRight 0 0 := .inl ⟨rfl, rfl⟩
theorem clean_of {m e : Int} (h : isRight m e) : clean m e = (m, e) := by unfold clean; rw [if_pos h]
/-- A whole number's right form has its value. -/
theorem of_val (n : Int) (h0 : -9223372036854775808 ≤ n) (h1 : n ≤ 9223372036854775807) : ∃ m e, normD n 0 = (m, e, true) ∧ isRight m e ∧ n = m * 10 ^ e.toNat ∧ 0 ≤ e ∧ e ≤ 18 := by
  by_cases hn : n = 0
  · subst hn
    exact ⟨0, 0, rfl, isRight_zero, rfl, by decide, by decide⟩
  · obtain ⟨a1, a2, a3, a4, a5, a6⟩ := strip_spec n 0 hn
    have he : (strip n 0).2 ≤ 18 := by
      by_cases h : (strip n 0).2 ≤ 18
      · exact h
      · have h2 : 10 ^ 19 ≤ 10 ^ ((strip n 0).2 - 0).toNat := pow10_le (by omega)
        have h3 : n.natAbs = (strip n 0).1.natAbs * 10 ^ ((strip n 0).2 - 0).toNat := by
          conv => lhs; rw [a3]
          rw [Int.natAbs_mul, Int.natAbs_pow]
          rfl
        have h4 : 1 ≤ (strip n 0).1.natAbs := by
          have : (strip n 0).1.natAbs ≠ 0 := fun k => a1 (Int.natAbs_eq_zero.1 k)
          omega
        have h5 : 1 * 10 ^ 19 ≤ (strip n 0).1.natAbs * 10 ^ ((strip n 0).2 - 0).toNat := Nat.mul_le_mul h4 h2
        have h6 : (10 : Nat) ^ 19 = 10000000000000000000 := by decide
        omega
    have hD : normD n 0 = ((strip n 0).1, (strip n 0).2, true) := by
      unfold normD
      rw [if_neg hn, if_neg (by omega), if_neg (by omega)]
    exact ⟨_, _, hD, normD_right hD, by rw [Int.sub_zero] at a3; exact a3, a2, he⟩
end Go.Proofs.YtfdeheodjkpkkaaGreatDoor.Dm
