/- What the reference's functions on signs compute. -/
import Derived.Test.YtenngdkgahngjaaDoorAll6
import Derived.Test.YtenngdkgahngjaaDoorAll6
import Derived.Test.YtenngdkgahngjaaDoorSi
namespace Go.Proofs.YtenngdkgahngjaaDoor.SiRef
open Go.RowKit Go.Proofs.YtenngdkgahngjaaDoorW.PrintWords Go.Proofs.YtenngdkgahngjaaDoor.All Go.Proofs.YtenngdkgahngjaaDoor.Ba Go.Lib
open Go.Proofs.YtenngdkgahngjaaDoor.Si (Rn escs escs_len encs_len unE_or escE_or escE_encs decode_encode enc_ne enc_len enc1 enc2 enc3 enc4 valid_encs escL_ways escL_plain tab_pair lookup_at upDig upHex_small upHex_big upHex_ne ofNat_lt hex_up upHex_all)
set_option linter.unusedVariables false
set_option linter.unusedSimpArgs false

abbrev enr := Si.encs
def byt (l : List UInt8) (i : Nat) : Nat := (l.getD i 0).toNat
theorem byt_lt (l : List UInt8) (i : Nat) : byt l i < 256 := UInt8.toNat_lt _
theorem bt_byt (l : List UInt8) (i : Nat) (h : i < l.length) : bt (ba l) (i : Int) = (byt l i : Int) := by
  rw [ba_bt l i h]
  unfold byt
  rw [List.getD_eq_getElem?_getD, List.getElem?_eq_getElem h]
  rfl
/-- A rune that was decoded, as the reference tells it. -/
def resN (d : Nat × Nat) : Int × Int := if d.1 = 65533 ∧ d.2 = 1 then (0, 0) else ((d.1 : Int), (d.2 : Int))
theorem next_step (l : List UInt8) (x n least i : Nat) (hi : i < n) (hl : n ≤ l.length) (hn : n ≤ 4) (hx : x ≤ 1000000000) (r : Int × Int)
    (h1 : 128 ≤ byt l i → byt l i < 192 → Ev (fun k => deckleref07_next.l0 k (ba l) ((64 * x + (byt l i - 128) : Nat) : Int) (n : Int) (least : Int) ((i + 1 : Nat) : Int)) r)
    (h2 : ¬ (128 ≤ byt l i ∧ byt l i < 192) → r = (0, 0)) :
    Ev (fun k => deckleref07_next.l0 k (ba l) (x : Int) (n : Int) (least : Int) (i : Int)) r := by
  have hb := byt_lt l i
  by_cases c : 128 ≤ byt l i ∧ byt l i < 192
  · refine Ev.step (fun k => ?_) (h1 c.1 c.2)
    simp only [deckleref07_next.l0]
    rw [if_pos (by omega), if_pos (by omega), if_pos (by rw [ba_size]; omega), bt_byt l i (by omega), if_neg (by omega), if_neg (by omega), wrapI (n := 64 * (x : Int)) (by unfold I; omega), wrapI (n := (byt l i : Int)) (by unfold I; omega), wrapI (n := 64 * (x : Int) + (byt l i : Int)) (by unfold I; omega), wrapI (by unfold I; omega), wrapI (by unfold I; omega)]
    congr 1
    omega
  · rw [h2 c]
    refine Ev.step (f := fun _ => some _) (fun k => ?_) (Ev.now _)
    simp only [deckleref07_next.l0]
    rw [if_pos (by omega), if_pos (by omega), if_pos (by rw [ba_size]; omega), bt_byt l i (by omega)]
    by_cases c1 : byt l i < 128
    · rw [if_pos (by omega)]
    · rw [if_neg (by omega), if_pos (by omega)]
theorem next_end (l : List UInt8) (x n least : Nat) : Ev (fun k => deckleref07_next.l0 k (ba l) (x : Int) (n : Int) (least : Int) (n : Int)) (if x < least ∨ 1114111 < x ∨ (55296 ≤ x ∧ x ≤ 57343) then (0, 0) else ((x : Int), (n : Int))) := by
  refine Ev.step (f := fun _ => some _) (fun k => ?_) (Ev.now _)
  simp only [deckleref07_next.l0]
  rw [if_neg (by omega)]
  by_cases c1 : x < least
  · rw [if_pos (by omega), if_pos (by omega)]
  · rw [if_neg (by omega)]
    by_cases c2 : 1114111 < x
    · rw [if_pos (by omega), if_pos (by omega)]
    · rw [if_neg (by omega)]
      by_cases c3 : 55296 ≤ x
      · rw [if_pos (by omega)]
        by_cases c4 : x ≤ 57343
        · rw [if_pos (by omega), if_pos (by omega)]
        · rw [if_neg (by omega), if_neg (by omega)]
      · rw [if_neg (by omega), if_neg (by omega)]
theorem next_j2 (l : List UInt8) (x n least : Nat) (r : Int × Int) (h1 : n ≤ l.length → Ev (fun k => deckleref07_next.l0 k (ba l) (x : Int) (n : Int) (least : Int) ((1 : Nat) : Int)) r) (h2 : l.length < n → r = (0, 0)) :
    Ev (fun k => deckleref07_next.j2 k (ba l) (x : Int) (n : Int) (least : Int)) r := by
  by_cases c : l.length < n
  · rw [h2 c]
    refine Ev.step (f := fun _ => some _) (fun k => ?_) (Ev.now _)
    simp only [deckleref07_next.j2]
    rw [if_pos (by rw [ba_size]; omega)]
  · refine Ev.step (fun k => ?_) (h1 (by omega))
    simp only [deckleref07_next.j2]
    rw [if_neg (by rw [ba_size]; omega)]
    rfl
theorem dec_one (n b0 b1 b2 b3 : Nat) (h : b0 < 128) : resN (decodeN n b0 b1 b2 b3) = ((b0 : Int), 1) := by
  have e : decodeN n b0 b1 b2 b3 = (b0, 1) := by
    unfold decodeN
    rw [if_pos h]
  rw [e]
  unfold resN
  rw [if_neg (by simp only; omega)]
  rfl
theorem dec_bad (n b0 b1 b2 b3 : Nat) (h : (128 ≤ b0 ∧ b0 < 192) ∨ 248 ≤ b0) (hb : b0 < 256) : resN (decodeN n b0 b1 b2 b3) = (0, 0) := by
  rw [decodeN_bad n b0 b1 b2 b3 (by omega)]
  rfl
theorem dec_two (n b0 b1 b2 b3 : Nat) (h : 192 ≤ b0) (h' : b0 < 224) : resN (decodeN n b0 b1 b2 b3) = if 2 ≤ n ∧ 128 ≤ b1 ∧ b1 < 192 then (if 64 * (b0 - 192) + (b1 - 128) < 128 ∨ 1114111 < 64 * (b0 - 192) + (b1 - 128) ∨ (55296 ≤ 64 * (b0 - 192) + (b1 - 128) ∧ 64 * (b0 - 192) + (b1 - 128) ≤ 57343) then (0, 0) else (((64 * (b0 - 192) + (b1 - 128) : Nat) : Int), ((2 : Nat) : Int))) else (0, 0) := by
  by_cases c : 2 ≤ n ∧ 128 ≤ b1 ∧ b1 < 192
  · have e : decodeN n b0 b1 b2 b3 = if b0 % 32 * 64 + b1 % 64 ≥ 128 then (b0 % 32 * 64 + b1 % 64, 2) else (65533, 1) := by
      unfold decodeN
      rw [if_neg (by omega), if_pos (by omega)]
    rw [e, if_pos c]
    by_cases d : b0 % 32 * 64 + b1 % 64 ≥ 128
    · rw [if_pos d]
      unfold resN
      rw [if_neg (by simp only; omega), if_neg (by omega)]
      exact Prod.ext (by simp only; omega) rfl
    · rw [if_neg d, if_pos (by omega)]
      rfl
  · have e : decodeN n b0 b1 b2 b3 = (65533, 1) := by
      unfold decodeN
      rw [if_neg (by omega), if_neg (by omega), if_neg (by omega), if_neg (by omega)]
    rw [e, if_neg c]
    rfl
theorem dec_three (n b0 b1 b2 b3 : Nat) (h : 224 ≤ b0) (h' : b0 < 240) : resN (decodeN n b0 b1 b2 b3) = if 3 ≤ n ∧ (128 ≤ b1 ∧ b1 < 192) ∧ (128 ≤ b2 ∧ b2 < 192) then (if 64 * (64 * (b0 - 224) + (b1 - 128)) + (b2 - 128) < 2048 ∨ 1114111 < 64 * (64 * (b0 - 224) + (b1 - 128)) + (b2 - 128) ∨ (55296 ≤ 64 * (64 * (b0 - 224) + (b1 - 128)) + (b2 - 128) ∧ 64 * (64 * (b0 - 224) + (b1 - 128)) + (b2 - 128) ≤ 57343) then (0, 0) else (((64 * (64 * (b0 - 224) + (b1 - 128)) + (b2 - 128) : Nat) : Int), ((3 : Nat) : Int))) else (0, 0) := by
  by_cases c : 3 ≤ n ∧ (128 ≤ b1 ∧ b1 < 192) ∧ (128 ≤ b2 ∧ b2 < 192)
  · have e : decodeN n b0 b1 b2 b3 = if b0 % 16 * 4096 + b1 % 64 * 64 + b2 % 64 ≥ 2048 ∧ (b0 % 16 * 4096 + b1 % 64 * 64 + b2 % 64 < 55296 ∨ (57344 ≤ b0 % 16 * 4096 + b1 % 64 * 64 + b2 % 64 ∧ b0 % 16 * 4096 + b1 % 64 * 64 + b2 % 64 ≤ 1114111)) then (b0 % 16 * 4096 + b1 % 64 * 64 + b2 % 64, 3) else (65533, 1) := by
      unfold decodeN
      rw [if_neg (by omega), if_neg (by omega), if_pos (by omega)]
    rw [e, if_pos c]
    by_cases d : b0 % 16 * 4096 + b1 % 64 * 64 + b2 % 64 ≥ 2048 ∧ (b0 % 16 * 4096 + b1 % 64 * 64 + b2 % 64 < 55296 ∨ (57344 ≤ b0 % 16 * 4096 + b1 % 64 * 64 + b2 % 64 ∧ b0 % 16 * 4096 + b1 % 64 * 64 + b2 % 64 ≤ 1114111))
    · rw [if_pos d]
      unfold resN
      rw [if_neg (by simp only; omega), if_neg (by omega)]
      exact Prod.ext (by simp only; omega) rfl
    · rw [if_neg d, if_pos (by omega)]
      rfl
  · have e : decodeN n b0 b1 b2 b3 = (65533, 1) := by
      unfold decodeN
      rw [if_neg (by omega), if_neg (by omega), if_neg (by omega), if_neg (by omega)]
    rw [e, if_neg c]
    rfl
theorem dec_four (n b0 b1 b2 b3 : Nat) (h : 240 ≤ b0) (h' : b0 < 248) : resN (decodeN n b0 b1 b2 b3) = if 4 ≤ n ∧ (128 ≤ b1 ∧ b1 < 192) ∧ (128 ≤ b2 ∧ b2 < 192) ∧ (128 ≤ b3 ∧ b3 < 192) then (if 64 * (64 * (64 * (b0 - 240) + (b1 - 128)) + (b2 - 128)) + (b3 - 128) < 65536 ∨ 1114111 < 64 * (64 * (64 * (b0 - 240) + (b1 - 128)) + (b2 - 128)) + (b3 - 128) ∨ (55296 ≤ 64 * (64 * (64 * (b0 - 240) + (b1 - 128)) + (b2 - 128)) + (b3 - 128) ∧ 64 * (64 * (64 * (b0 - 240) + (b1 - 128)) + (b2 - 128)) + (b3 - 128) ≤ 57343) then (0, 0) else (((64 * (64 * (64 * (b0 - 240) + (b1 - 128)) + (b2 - 128)) + (b3 - 128) : Nat) : Int), ((4 : Nat) : Int))) else (0, 0) := by
  by_cases c : 4 ≤ n ∧ (128 ≤ b1 ∧ b1 < 192) ∧ (128 ≤ b2 ∧ b2 < 192) ∧ (128 ≤ b3 ∧ b3 < 192)
  · have e : decodeN n b0 b1 b2 b3 = if b0 % 8 * 262144 + b1 % 64 * 4096 + b2 % 64 * 64 + b3 % 64 ≥ 65536 ∧ (b0 % 8 * 262144 + b1 % 64 * 4096 + b2 % 64 * 64 + b3 % 64 < 55296 ∨ (57344 ≤ b0 % 8 * 262144 + b1 % 64 * 4096 + b2 % 64 * 64 + b3 % 64 ∧ b0 % 8 * 262144 + b1 % 64 * 4096 + b2 % 64 * 64 + b3 % 64 ≤ 1114111)) then (b0 % 8 * 262144 + b1 % 64 * 4096 + b2 % 64 * 64 + b3 % 64, 4) else (65533, 1) := by
      unfold decodeN
      rw [if_neg (by omega), if_neg (by omega), if_neg (by omega), if_pos (by omega)]
    rw [e, if_pos c]
    by_cases d : b0 % 8 * 262144 + b1 % 64 * 4096 + b2 % 64 * 64 + b3 % 64 ≥ 65536 ∧ (b0 % 8 * 262144 + b1 % 64 * 4096 + b2 % 64 * 64 + b3 % 64 < 55296 ∨ (57344 ≤ b0 % 8 * 262144 + b1 % 64 * 4096 + b2 % 64 * 64 + b3 % 64 ∧ b0 % 8 * 262144 + b1 % 64 * 4096 + b2 % 64 * 64 + b3 % 64 ≤ 1114111))
    · rw [if_pos d]
      unfold resN
      rw [if_neg (by simp only; omega), if_neg (by omega)]
      exact Prod.ext (by simp only; omega) rfl
    · rw [if_neg d, if_pos (by omega)]
      rfl
  · have e : decodeN n b0 b1 b2 b3 = (65533, 1) := by
      unfold decodeN
      rw [if_neg (by omega), if_neg (by omega), if_neg (by omega), if_neg (by omega)]
    rw [e, if_neg c]
    rfl
theorem next_ev (l : List UInt8) (hne : l ≠ []) : Ev (fun k => deckleref07_next.f k (ba l)) (resN (decodeL l)) := by
  have hl : 0 < l.length := List.length_pos_iff.2 hne
  have hb := byt_lt l 0
  rw [decodeL_N]
  show Ev _ (resN (decodeN l.length (byt l 0) (byt l 1) (byt l 2) (byt l 3)))
  unfold deckleref07_next.f
  have e0 : bt (ba l) 0 = (byt l 0 : Int) := bt_byt l 0 hl
  have ew : wrap64 (byt l 0 : Int) = (byt l 0 : Int) := wrapI (by unfold I; omega)
  refine Ev.if_pos (by rw [ba_size]; omega) ?_
  rw [e0, ew]
  by_cases c1 : byt l 0 < 128
  · rw [dec_one _ _ _ _ _ c1]
    exact Ev.if_pos (by omega) (Ev.now _)
  refine Ev.if_neg (by omega) ?_
  by_cases c2 : byt l 0 < 192
  · rw [dec_bad _ _ _ _ _ (Or.inl ⟨by omega, c2⟩) hb]
    refine Ev.if_neg (by omega) (Ev.step (fun k => ?_) (Ev.step (f := fun _ => some _) (fun k => ?_) (Ev.now _)) (f := fun k => deckleref07_next.j1 k (ba l) (byt l 0 : Int) false))
    · simp only [deckleref07_next.j0]
      rw [if_neg (by decide), if_neg (by omega)]
    · simp only [deckleref07_next.j1]
      rw [if_neg (by decide), if_neg (by omega)]
  refine Ev.if_pos (by omega) ?_
  by_cases c3 : byt l 0 < 224
  · rw [dec_two _ _ _ _ _ (by omega) c3, decide_eq_true (by omega)]
    refine Ev.step (fun k => ?_) (f := fun k => deckleref07_next.j2 k (ba l) ((byt l 0 - 192 : Nat) : Int) ((2 : Nat) : Int) ((128 : Nat) : Int)) (next_j2 l _ _ _ _ (fun h => next_step l _ _ _ 1 (by omega) h (by omega) (by omega) _ (fun a b => ?_) (fun a => ?_)) (fun h => ?_))
    · simp only [deckleref07_next.j0]
      rw [if_pos trivial, wrapI (by unfold I; omega)]
      congr 1
      omega
    · rw [if_pos ⟨h, a, b⟩]
      exact next_end l _ 2 128
    · rw [if_neg (by omega)]
    · rw [if_neg (by omega)]
  rw [decide_eq_false (by omega)]
  refine Ev.step (fun k => ?_) (f := fun k => deckleref07_next.j1 k (ba l) (byt l 0 : Int) (decide ((byt l 0 : Int) < 240))) ?_
  · simp only [deckleref07_next.j0]
    rw [if_neg (by decide), if_pos (by omega)]
  by_cases c4 : byt l 0 < 240
  · rw [dec_three _ _ _ _ _ (by omega) c4, decide_eq_true (by omega)]
    refine Ev.step (fun k => ?_) (f := fun k => deckleref07_next.j2 k (ba l) ((byt l 0 - 224 : Nat) : Int) ((3 : Nat) : Int) ((2048 : Nat) : Int)) (next_j2 l _ _ _ _ (fun h => next_step l _ _ _ 1 (by omega) h (by omega) (by omega) _ (fun a b => next_step l _ _ _ 2 (by omega) h (by omega) (by omega) _ (fun a2 b2 => ?_) (fun a2 => ?_)) (fun a => ?_)) (fun h => ?_))
    · simp only [deckleref07_next.j1]
      rw [if_pos trivial, wrapI (by unfold I; omega)]
      congr 1
      omega
    · rw [if_pos ⟨h, ⟨a, b⟩, a2, b2⟩]
      exact next_end l _ 3 2048
    · rw [if_neg (by omega)]
    · rw [if_neg (by omega)]
    · rw [if_neg (by omega)]
  rw [decide_eq_false (by omega)]
  by_cases c5 : byt l 0 < 248
  · rw [dec_four _ _ _ _ _ (by omega) c5]
    refine Ev.step (fun k => ?_) (f := fun k => deckleref07_next.j2 k (ba l) ((byt l 0 - 240 : Nat) : Int) ((4 : Nat) : Int) ((65536 : Nat) : Int)) (next_j2 l _ _ _ _ (fun h => next_step l _ _ _ 1 (by omega) h (by omega) (by omega) _ (fun a b => next_step l _ _ _ 2 (by omega) h (by omega) (by omega) _ (fun a2 b2 => next_step l _ _ _ 3 (by omega) h (by omega) (by omega) _ (fun a3 b3 => ?_) (fun a3 => ?_)) (fun a2 => ?_)) (fun a => ?_)) (fun h => ?_))
    · simp only [deckleref07_next.j1]
      rw [if_neg (by decide), if_pos (by omega), if_pos (by omega), wrapI (by unfold I; omega)]
      congr 1
      omega
    · rw [if_pos ⟨h, ⟨a, b⟩, ⟨a2, b2⟩, a3, b3⟩]
      exact next_end l _ 4 65536
    · rw [if_neg (by omega)]
    · rw [if_neg (by omega)]
    · rw [if_neg (by omega)]
    · rw [if_neg (by omega)]
  · rw [dec_bad _ _ _ _ _ (Or.inr (by omega)) hb]
    refine Ev.step (f := fun _ => some _) (fun k => ?_) (Ev.now _)
    simp only [deckleref07_next.j1]
    rw [if_neg (by decide), if_pos (by omega), if_neg (by omega)]
theorem ext_drop (l : List UInt8) (i : Nat) : (ba l).extract i (ba l).size = ba (l.drop i) := by
  rw [ba_extract, ba_size, List.take_of_length_le (by rw [List.length_drop]; omega)]
theorem resN_enc (c : Nat) (h : Rn c) (t : List UInt8) : resN (decodeL (encodeRune (c : Int) ++ t)) = ((c : Int), ((encodeRune (c : Int)).length : Int)) := by
  rw [decode_encode c h]
  unfold resN
  rw [if_neg]
  rintro ⟨h1, h2⟩
  simp only at h1 h2
  rw [h1, enc3 (by omega) (by omega) (by omega)] at h2
  exact absurd h2 (by decide)
/-- The runes, as whole numbers. -/
def ints (rs : List Nat) : List Int := rs.map fun (c : Nat) => (c : Int)
theorem signs_good : ∀ (rs : List Nat) (acc : List Int), (∀ c ∈ rs, Rn c) → acc.length + rs.length ≤ 1000000000 → Ev (fun k => deckleref07_Signs.l0 k (ba (enr rs)) acc) (acc ++ ints rs, true)
  | [], acc, _, _ => by
    refine Ev.step (f := fun _ => some _) (fun k => ?_) (Ev.now _)
    simp only [deckleref07_Signs.l0]
    rw [if_pos (by rw [ba_toList]; rfl)]
    simp [ints]
  | c :: rs, acc, h, hl => by
    have hc := h c (by simp)
    have e : enr (c :: rs) = encodeRune (c : Int) ++ enr rs := by simp [enr, Si.encs]
    have ih := signs_good rs (acc ++ [(c : Int)]) (fun x hx => h x (by simp [hx])) (by simp only [List.length_append, List.length_cons, List.length_nil] at hl ⊢; omega)
    simp only [List.length_cons] at hl
    have e2 : acc ++ ints (c :: rs) = (acc ++ [(c : Int)]) ++ ints rs := by simp [ints]
    have hlen := enc_len (c : Int)
    rw [e, e2]
    refine Ev.step (f := fun k => deckleref07_Signs.l0 (k + 1) (ba (encodeRune (c : Int) ++ enr rs)) acc) (fun _ => rfl) ?_
    simp only [deckleref07_Signs.l0]
    refine Ev.if_neg (by rw [ba_toList]; exact enc_ne _ _) (Ev.bind' (next_ev _ (enc_ne _ _)) ?_)
    rw [resN_enc c hc]
    simp only
    refine Ev.if_neg (by omega) (Ev.if_pos (by omega) (Ev.if_pos (by omega) (Ev.if_pos (by rw [ba_size, List.length_append]; omega) ?_)))
    rw [Int.toNat_natCast, ext_drop, List.drop_left]
    exact ih
theorem signs_bad : ∀ (n : Nat) (l : List UInt8) (acc : List Int), l.length ≤ n → acc.length + l.length ≤ 1000000000 → validD l = false → Ev (fun k => deckleref07_Signs.l0 k (ba l) acc) ([], false)
  | 0, l, acc, hn, _, hv => by
    rw [List.eq_nil_of_length_eq_zero (Nat.le_zero.1 hn)] at hv
    exact absurd hv (by decide)
  | n + 1, l, acc, hn, hl, hv => by
    have hne : l ≠ [] := by
      rintro rfl
      exact absurd hv (by decide)
    have hp : 0 < l.length := List.length_pos_iff.2 hne
    refine Ev.step (f := fun k => deckleref07_Signs.l0 (k + 1) (ba l) acc) (fun _ => rfl) ?_
    simp only [deckleref07_Signs.l0]
    refine Ev.if_neg (by rw [ba_toList]; exact hne) (Ev.bind' (next_ev l hne) ?_)
    rw [validD_step l hne] at hv
    by_cases c : (decodeL l).1 = 65533 ∧ (decodeL l).2 = 1
    · unfold resN
      rw [if_pos c]
      exact Ev.if_pos rfl (Ev.now _)
    · rw [if_neg c] at hv
      have hw := decodeL_width l
      have hle := decodeL_le l hne
      unfold resN
      rw [if_neg c]
      simp only
      refine Ev.if_neg (by omega) (Ev.if_pos (by omega) (Ev.if_pos (by omega) (Ev.if_pos (by rw [ba_size]; omega) ?_)))
      rw [Int.toNat_natCast, ext_drop]
      exact signs_bad n _ _ (by rw [List.length_drop]; omega) (by simp only [List.length_append, List.length_drop, List.length_cons, List.length_nil]; omega) hv
theorem rsigns_good (rs : List Nat) (h : ∀ c ∈ rs, Rn c) (hl : rs.length ≤ 1000000000) : Ev (fun k => deckleref07_Signs.f k (ba (enr rs))) (ints rs, true) := by
  have := signs_good rs [] h (by simpa using hl)
  rw [List.nil_append] at this
  exact this
theorem rsigns_bad (l : List UInt8) (hl : l.length ≤ 1000000000) (h : validD l = false) : Ev (fun k => deckleref07_Signs.f k (ba l)) ([], false) := signs_bad _ l [] (Nat.le_refl _) (by simpa using hl) h
theorem rlen_encs (rs : List Nat) : rs.length ≤ (enr rs).length := by
  induction rs with
  | nil => exact Nat.le_refl _
  | cons c rs ih =>
    have e : enr (c :: rs) = encodeRune (c : Int) ++ enr rs := by simp [enr, Si.encs]
    have := (enc_len (c : Int)).1
    rw [e, List.length_append, List.length_cons]
    omega
/-! ### hexadecimal -/
theorem hex_cut : ∀ d : Fin 16, (⟨#[48, 49, 50, 51, 52, 53, 54, 55, 56, 57, 65, 66, 67, 68, 69, 70]⟩ : ByteArray).extract d.val (d.val + 1) = ba [upDig d.val] := by decide +kernel
theorem hexcut_int (d : Nat) (h : d < 16) : (⟨#[48, 49, 50, 51, 52, 53, 54, 55, 56, 57, 65, 66, 67, 68, 69, 70]⟩ : ByteArray).extract ((d : Int)).toNat (((d + 1 : Nat) : Int)).toNat = ba [upDig d] := by
  rw [Int.toNat_natCast, Int.toNat_natCast]
  exact hex_cut ⟨d, h⟩
theorem hex_ev (u : Nat) : u ≤ 1114111 → Ev (fun k => deckleref07_hex.f k (u : Int)) (ba (upHex u)) := by
  induction u using Nat.strongRecOn with
  | _ u ih =>
    intro hu
    by_cases h : u < 16
    · rw [upHex_small h]
      refine Ev.step (f := fun _ => some _) (fun k => ?_) (Ev.now _)
      simp only [deckleref07_hex.f]
      have ew : wrap64 ((u : Int) + 1) = ((u + 1 : Nat) : Int) := by rw [wrapI (by unfold I; omega)]; omega
      rw [if_pos (by omega), if_pos (by omega), ew, if_pos (by omega), if_pos (by omega), hexcut_int u h]
    · rw [upHex_big h]
      have e1 : wrap64 (Int.tdiv (u : Int) 16) = ((u / 16 : Nat) : Int) := by
        rw [show Int.tdiv (u : Int) 16 = ((u / 16 : Nat) : Int) from rfl, wrapI (by unfold I; omega)]
      have e2 : Int.tmod (u : Int) 16 = ((u % 16 : Nat) : Int) := rfl
      have hm : u % 16 < 16 := Nat.mod_lt _ (by decide)
      have ew : wrap64 (((u % 16 : Nat) : Int) + 1) = ((u % 16 + 1 : Nat) : Int) := by rw [wrapI (by unfold I; omega)]; omega
      have hlen := upHex_len (u / 16) (by omega)
      refine Ev.step (f := fun k => deckleref07_hex.f (k + 1) (u : Int)) (fun _ => rfl) ?_
      simp only [deckleref07_hex.f]
      rw [e1, e2, ew]
      refine Ev.if_neg (by omega) (Ev.bind' (ih (u / 16) (by omega) (by omega)) ?_)
      refine Ev.if_pos (by omega) (Ev.if_pos (by omega) (Ev.if_pos (by omega) ?_))
      rw [hexcut_int _ hm]
      refine Ev.if_pos (by rw [ba_size, ba_size]; simp only [List.length_cons, List.length_nil]; omega) ?_
      rw [ba_append]
      exact Ev.now _
/-! ### the table -/
theorem table_f : deckleref07_table.f = some (ints farR, ba (nearL.map UInt8.ofNat)) := by kernel_rfl
theorem rdI (i : Nat) : rd (ints farR) (i : Int) = ((farR.getD i 0 : Nat) : Int) := by
  unfold rd ints
  rw [Int.toNat_natCast, List.getD_eq_getElem?_getD, List.getElem?_map, List.getD_eq_getElem?_getD]
  cases farR[i]? <;> rfl
theorem near_cut (i : Nat) (h : i < 43) : (ba (nearL.map UInt8.ofNat)).extract i (i + 1) = ba [UInt8.ofNat (nearL.getD i 0)] := by
  have : ∀ k : Fin 43, ((nearL.map UInt8.ofNat).drop k.val).take 1 = [UInt8.ofNat (nearL.getD k.val 0)] := by decide +kernel
  rw [ba_extract, Nat.add_sub_cancel_left, this ⟨i, h⟩]
theorem one_loop (c : Nat) (hc : c ≤ 1114111) : ∀ (d i : Nat), i + d = 43 → Ev (fun k => deckleref07_one.l0 k (c : Int) (ints farR) (ba (nearL.map UInt8.ofNat)) (i : Int))
      (ba (if 0 < lookup (c : Int) (farR.drop i) (nearL.drop i) then [64, UInt8.ofNat (lookup (c : Int) (farR.drop i) (nearL.drop i)).toNat] else 64 :: 123 :: (upHex c ++ [125])))
  | 0, i, hd => by
    have hi : i = 43 := by omega
    subst hi
    have hlen := upHex_len c hc
    rw [if_neg (by show ¬ (0 < (0 : Int)); decide)]
    refine Ev.step (f := fun k => deckleref07_one.l0 (k + 1) (c : Int) (ints farR) (ba (nearL.map UInt8.ofNat)) ((43 : Nat) : Int)) (fun _ => rfl) ?_
    simp only [deckleref07_one.l0]
    refine Ev.if_neg (by show ¬ ((43 : Int) < 43); decide) (Ev.bind' (hex_ev c hc) ?_)
    refine Ev.if_pos (by rw [ba_size]; omega) (Ev.if_pos (by rw [show (⟨#[64, 123]⟩ : ByteArray) = ba [64, 123] from rfl, ba_append, ba_size]; simp only [List.length_append, List.length_cons, List.length_nil]; omega) ?_)
    rw [show (⟨#[64, 123]⟩ : ByteArray) = ba [64, 123] from rfl, show (⟨#[125]⟩ : ByteArray) = ba [125] from rfl, ba_append, ba_append]
    exact Ev.now _
  | d + 1, i, hd => by
    have hi : i < 43 := by omega
    rw [lookup_step (c : Int) i hi]
    have hr := rdI i
    by_cases h : ((farR.getD i 0 : Nat) : Int) = (c : Int)
    · obtain ⟨_, _, q2, q3, _⟩ := tab_pair ⟨i, hi⟩
      rw [if_pos h, if_pos (by simp only at q2; omega)]
      have ew : wrap64 ((i : Int) + 1) = ((i + 1 : Nat) : Int) := by rw [wrapI (by unfold I; omega)]; omega
      refine Ev.step (f := fun _ => some _) (fun k => ?_) (Ev.now _)
      simp only [deckleref07_one.l0]
      have hz : (ba (nearL.map UInt8.ofNat)).size = 43 := rfl
      rw [if_pos (by show (i : Int) < 43; omega), if_pos (by omega), hr, if_pos h, ew, if_pos (by omega), if_pos (by rw [hz]; omega), Int.toNat_natCast, Int.toNat_natCast, near_cut i hi, if_pos (by rw [ba_size]; simp), show (⟨#[64]⟩ : ByteArray) = ba [64] from rfl, ba_append]
      rfl
    · rw [if_neg h]
      refine Ev.step (fun k => ?_) (one_loop c hc d (i + 1) (by omega))
      simp only [deckleref07_one.l0]
      have ew : wrap64 ((i : Int) + 1) = ((i + 1 : Nat) : Int) := by rw [wrapI (by unfold I; omega)]; omega
      rw [if_pos (by show (i : Int) < 43; omega), if_pos (by omega), hr, if_neg h, ew]
theorem strOf_one (x : Nat) (h : x < 256) : strOfNums [(x : Int) % 256] = ba [UInt8.ofNat x] := by
  rw [show (x : Int) % 256 = (x : Int) by omega]
  rfl
theorem one_ev (c : Nat) (hc : c ≤ 1114111) : Ev (fun k => deckleref07_one.f k (c : Int)) (ba (escL c)) := by
  unfold deckleref07_one.f
  by_cases h64 : c = 64
  · subst h64
    exact Ev.if_pos rfl (Ev.now _)
  refine Ev.if_neg (by omega) ?_
  by_cases hp : 32 ≤ c ∧ c ≤ 126
  · refine Ev.if_pos (by omega) (Ev.step (f := fun _ => some _) (fun k => ?_) (Ev.now _))
    simp only [deckleref07_one.j0]
    rw [if_pos (decide_eq_true (by omega)), strOf_one c (by omega), escL_plain ⟨hp.1, hp.2, h64⟩]
  · have hl : Ev (fun k => deckleref07_one.j0 k (c : Int) false) (ba (escL c)) := by
      refine Ev.step (f := fun k => deckleref07_one.l0 k (c : Int) (ints farR) (ba (nearL.map UInt8.ofNat)) ((0 : Nat) : Int)) (fun k => ?_) ?_
      · simp only [deckleref07_one.j0]
        rw [if_neg (by decide), table_f]
        rfl
      · have := one_loop c hc 43 0 rfl
        rw [List.drop_zero, List.drop_zero] at this
        unfold escL
        rw [if_neg (by omega), if_neg h64]
        exact this
    by_cases h32 : 32 ≤ c
    · refine Ev.if_pos (by omega) ?_
      rw [decide_eq_false (by omega)]
      exact hl
    · exact Ev.if_neg (by omega) hl
/-! ### Escape and Right -/
theorem rdInts (rs : List Nat) (i : Nat) (h : i < rs.length) : rd (ints rs) (i : Int) = ((rs[i] : Nat) : Int) := by
  unfold rd ints
  rw [Int.toNat_natCast, List.getD_eq_getElem?_getD, List.getElem?_map, List.getElem?_eq_getElem h]
  rfl
theorem escs_cons (c : Nat) (rs : List Nat) : escs (c :: rs) = escL c ++ escs rs := by simp [escs]
theorem enr_cons (c : Nat) (rs : List Nat) : enr (c :: rs) = encodeRune (c : Int) ++ enr rs := by simp [enr, Si.encs]
theorem Rn_le {c : Nat} (h : Rn c) : c ≤ 1114111 := by unfold Rn at h; omega
theorem esc_loop (rs : List Nat) (h : ∀ c ∈ rs, Rn c) (b : Bool) (hl : rs.length ≤ 100000000) : ∀ (d i : Nat) (out : List UInt8), i + d = rs.length → out.length ≤ 9 * i → Ev (fun k => deckleref07_Escape.l0 k (ints rs) b (ba out) (i : Int)) (ba (out ++ escs (rs.drop i)), b)
  | 0, i, out, hd, ho => by
    refine Ev.step (f := fun _ => some _) (fun k => ?_) (Ev.now _)
    simp only [deckleref07_Escape.l0]
    rw [if_neg (by simp only [ints, List.length_map]; omega), List.drop_of_length_le (by omega)]
    simp [escs]
  | d + 1, i, out, hd, ho => by
    have hi : i < rs.length := by omega
    have hc := h _ (List.getElem_mem hi)
    have hlen := escL_len rs[i] (Rn_le hc)
    refine Ev.step (f := fun k => deckleref07_Escape.l0 (k + 1) (ints rs) b (ba out) (i : Int)) (fun _ => rfl) ?_
    simp only [deckleref07_Escape.l0]
    rw [rdInts rs i hi]
    refine Ev.if_pos (by simp only [ints, List.length_map]; omega) (Ev.if_pos (by omega) (Ev.bind' (one_ev _ (Rn_le hc)) (Ev.if_pos (by rw [ba_size, ba_size]; omega) ?_)))
    rw [ba_append, wrapI (by unfold I; omega), List.drop_eq_getElem_cons hi, escs_cons, ← List.append_assoc]
    exact esc_loop rs h b hl d (i + 1) _ (by omega) (by rw [List.length_append]; omega)
theorem resc_ev (l : List UInt8) (hl : l.length ≤ 100000000) : Ev (fun k => deckleref07_Escape.f k (ba l)) (ba (escE l).1, (escE l).2) := by
  unfold deckleref07_Escape.f
  rcases escE_or l with ⟨rs, h1, h2, h3⟩ | ⟨h1, h2⟩
  · have hr := rlen_encs rs
    rw [show enr rs = l from h2.symm] at hr
    rw [h3, h2]
    refine Ev.bind' (rsigns_good rs h1 (by omega)) ?_
    have := esc_loop rs h1 true (by omega) rs.length 0 [] (by omega) (by simp)
    rw [List.nil_append, List.drop_zero] at this
    exact this
  · rw [h2]
    refine Ev.bind' (rsigns_bad l (by omega) h1) ?_
    have := esc_loop [] (by simp) false (by simp) 0 0 [] rfl (by simp)
    exact this
theorem rright_ev (l : List UInt8) (hl : l.length ≤ 100000000) : Ev (fun k => deckleref07_Right.f k (ba l)) (validD l) := by
  unfold deckleref07_Right.f
  cases hv : validD l with
  | true =>
    obtain ⟨rs, h1, h2⟩ := Si.runes_of l.length l (Nat.le_refl _) hv
    have hr := rlen_encs rs
    rw [show enr rs = l from h2.symm] at hr
    rw [h2]
    exact Ev.bind' (rsigns_good rs h1 (by omega)) (Ev.now _)
  | false => exact Ev.bind' (rsigns_bad l (by omega) hv) (Ev.now _)
/-! ### Bytes -/
theorem td (a b : Nat) : Int.tdiv (a : Int) (b : Int) = ((a / b : Nat) : Int) := rfl
theorem tm (a b : Nat) : Int.tmod (a : Int) (b : Int) = ((a % b : Nat) : Int) := rfl
theorem b256 (a : Nat) (n : Nat) (h : n + a < 256) : (wrap64 ((n : Int) + (a : Int))) % 256 = ((n + a : Nat) : Int) := by
  rw [wrapI (by unfold I; omega)]
  omega
theorem bytes_ev (c : Nat) (h : Rn c) : Ev (fun k => deckleref07_Bytes.f k (c : Int)) (ba (encodeRune (c : Int))) := by
  have hl : Ev (fun k => deckleref07_Bytes.j0 k (c : Int) false) (ba (encodeRune (c : Int))) := by
    unfold Rn at h
    refine Ev.step (f := fun _ => some _) (fun k => ?_) (Ev.now _)
    simp only [deckleref07_Bytes.j0]
    rw [if_neg (by decide)]
    by_cases c1 : c < 128
    · rw [if_pos (by omega), enc1 c1, strOf_one c (by omega)]
    rw [if_neg (by omega)]
    by_cases c2 : c < 2048
    · rw [if_pos (by omega), enc2 (by omega) c2, show Int.tdiv (c : Int) 64 = ((c / 64 : Nat) : Int) from rfl, show Int.tmod (c : Int) 64 = ((c % 64 : Nat) : Int) from rfl, wrapI (n := ((c / 64 : Nat) : Int)) (by unfold I; omega), show (192 : Int) = ((192 : Nat) : Int) from rfl, show (128 : Int) = ((128 : Nat) : Int) from rfl, b256 (c / 64) 192 (by omega), b256 (c % 64) 128 (by omega)]
      rfl
    rw [if_neg (by omega)]
    by_cases c3 : c < 65536
    · rw [if_pos (by omega), enc3 (by omega) c3 (by omega), show Int.tdiv (c : Int) 4096 = ((c / 4096 : Nat) : Int) from rfl, show Int.tdiv (c : Int) 64 = ((c / 64 : Nat) : Int) from rfl, show Int.tmod (c : Int) 64 = ((c % 64 : Nat) : Int) from rfl, wrapI (n := ((c / 4096 : Nat) : Int)) (by unfold I; omega), wrapI (n := ((c / 64 : Nat) : Int)) (by unfold I; omega), show Int.tmod ((c / 64 : Nat) : Int) 64 = ((c / 64 % 64 : Nat) : Int) from rfl, show (224 : Int) = ((224 : Nat) : Int) from rfl, show (128 : Int) = ((128 : Nat) : Int) from rfl, b256 (c / 4096) 224 (by omega), b256 (c / 64 % 64) 128 (by omega), b256 (c % 64) 128 (by omega)]
      rfl
    · rw [if_neg (by omega), enc4 (by omega) (by omega), show Int.tdiv (c : Int) 262144 = ((c / 262144 : Nat) : Int) from rfl, show Int.tdiv (c : Int) 4096 = ((c / 4096 : Nat) : Int) from rfl, show Int.tdiv (c : Int) 64 = ((c / 64 : Nat) : Int) from rfl, show Int.tmod (c : Int) 64 = ((c % 64 : Nat) : Int) from rfl, wrapI (n := ((c / 262144 : Nat) : Int)) (by unfold I; omega), wrapI (n := ((c / 4096 : Nat) : Int)) (by unfold I; omega), wrapI (n := ((c / 64 : Nat) : Int)) (by unfold I; omega), show Int.tmod ((c / 4096 : Nat) : Int) 64 = ((c / 4096 % 64 : Nat) : Int) from rfl, show Int.tmod ((c / 64 : Nat) : Int) 64 = ((c / 64 % 64 : Nat) : Int) from rfl, show (240 : Int) = ((240 : Nat) : Int) from rfl, show (128 : Int) = ((128 : Nat) : Int) from rfl, b256 (c / 262144) 240 (by omega), b256 (c / 4096 % 64) 128 (by omega), b256 (c / 64 % 64) 128 (by omega), b256 (c % 64) 128 (by omega)]
      rfl
  unfold Rn at h
  unfold deckleref07_Bytes.f
  refine Ev.if_neg (by omega) (Ev.if_neg (by omega) ?_)
  by_cases c4 : 55296 ≤ c
  · refine Ev.if_pos (by omega) ?_
    rw [decide_eq_false (by omega)]
    exact hl
  · exact Ev.if_neg (by omega) hl
theorem bytes_bad (c : Int) (h : c < 0 ∨ 1114111 < c ∨ (55296 ≤ c ∧ c ≤ 57343)) : Ev (fun k => deckleref07_Bytes.f k c) (ba []) := by
  have hl : Ev (fun k => deckleref07_Bytes.j0 k c true) (ba []) := by
    refine Ev.step (f := fun _ => some _) (fun k => ?_) (Ev.now _)
    simp only [deckleref07_Bytes.j0]
    rw [if_pos trivial]
    rfl
  unfold deckleref07_Bytes.f
  by_cases c1 : c < 0
  · exact Ev.if_pos c1 hl
  refine Ev.if_neg c1 ?_
  by_cases c2 : c > 1114111
  · exact Ev.if_pos c2 hl
  refine Ev.if_neg c2 (Ev.if_pos (by omega) ?_)
  rw [decide_eq_true (by omega)]
  exact hl
theorem bytes_any (c : Int) : ∃ s, Ev (fun k => deckleref07_Bytes.f k c) (ba s) ∧ s.length ≤ 4 := by
  by_cases h : c < 0 ∨ 1114111 < c ∨ (55296 ≤ c ∧ c ≤ 57343)
  · exact ⟨[], bytes_bad c h, by simp⟩
  · obtain ⟨n, rfl⟩ : ∃ n : Nat, c = (n : Int) := ⟨c.toNat, by omega⟩
    exact ⟨_, bytes_ev n (by unfold Rn; omega), (enc_len _).2⟩
/-! ### sign -/
theorem hex_val : ∀ d : Fin 16, (upDig d.val).toNat = if d.val < 10 then 48 + d.val else 55 + d.val := by decide +kernel
theorem dig_step (l : List UInt8) (n i d : Nat) (hd : d < 16) (hi : i < l.length) (h10 : i < 10) (hb : byt l i = (upDig d).toNat) (hn : n ≤ 1000000000) (r : Int × Int)
    (h : Ev (fun k => deckleref07_sign.l1 k (ba l) ((16 * n + d : Nat) : Int) ((i + 1 : Nat) : Int)) r) : Ev (fun k => deckleref07_sign.l1 k (ba l) (n : Int) (i : Int)) r := by
  have hv := hex_val ⟨d, hd⟩
  simp only at hv
  rw [hv] at hb
  refine Ev.step (f := fun k => deckleref07_sign.j2 k (ba l) (n : Int) (i : Int) true) (fun k => ?_) ?_
  · simp only [deckleref07_sign.l1]
    rw [if_pos (by rw [ba_size]; omega), decide_eq_true (by omega)]
  by_cases c : d < 10
  · rw [if_pos c] at hb
    refine Ev.step (f := fun k => deckleref07_sign.j3 k (ba l) (n : Int) (i : Int) true) (fun k => ?_) (Ev.step (fun k => ?_) h)
    · simp only [deckleref07_sign.j2]
      rw [if_pos trivial, if_pos (by omega), if_pos (by rw [ba_size]; omega), bt_byt l i hi, hb, if_neg (by omega), if_pos (by omega), decide_eq_true (by omega)]
    · simp only [deckleref07_sign.j3]
      rw [if_pos trivial, if_pos (by omega), if_pos (by rw [ba_size]; omega), bt_byt l i hi, hb, wrapI (n := 16 * (n : Int)) (by unfold I; omega), wrapI (n := 16 * (n : Int) + _) (by unfold I; omega), wrapI (by unfold I; omega)]
      congr 1
      omega
  · rw [if_neg c] at hb
    refine Ev.step (f := fun k => deckleref07_sign.j3 k (ba l) (n : Int) (i : Int) false) (fun k => ?_) (Ev.step (fun k => ?_) h)
    · simp only [deckleref07_sign.j2]
      rw [if_pos trivial, if_pos (by omega), if_pos (by rw [ba_size]; omega), bt_byt l i hi, hb, if_neg (by omega), if_pos (by omega), decide_eq_false (by omega)]
    · simp only [deckleref07_sign.j3]
      rw [if_neg (by decide), if_pos (by omega), if_pos (by rw [ba_size]; omega), bt_byt l i hi, hb, if_pos (by omega), if_pos (by omega), wrapI (n := 16 * (n : Int)) (by unfold I; omega), wrapI (n := 16 * (n : Int) + _) (by unfold I; omega), wrapI (by unfold I; omega)]
      congr 1
      omega
theorem byt_app (p : List UInt8) (b : UInt8) (q : List UInt8) : byt (p ++ b :: q) p.length = b.toNat := by
  unfold byt
  rw [List.getD_eq_getElem?_getD, List.getElem?_append_right (Nat.le_refl _), Nat.sub_self]
  rfl
theorem hex_read (u : Nat) : u ≤ 1114111 → ∀ (p q : List UInt8) (r : Int × Int), p.length + (upHex u).length ≤ 9 → Ev (fun k => deckleref07_sign.l1 k (ba (p ++ (upHex u ++ q))) (u : Int) ((p.length + (upHex u).length : Nat) : Int)) r → Ev (fun k => deckleref07_sign.l1 k (ba (p ++ (upHex u ++ q))) ((0 : Nat) : Int) (p.length : Int)) r := by
  induction u using Nat.strongRecOn with
  | _ u ih =>
    intro hu p q r hl h
    by_cases hs : u < 16
    · rw [upHex_small hs] at h hl ⊢
      refine dig_step _ 0 p.length u hs (by simp) (by simp at hl; omega) (by rw [List.cons_append, byt_app]) (by omega) r ?_
      rw [Nat.mul_zero, Nat.zero_add]
      exact h
    · rw [upHex_big hs] at h hl ⊢
      have e : upHex (u / 16) ++ [upDig (u % 16)] ++ q = upHex (u / 16) ++ (upDig (u % 16) :: q) := by simp
      rw [e] at h ⊢
      rw [List.length_append, List.length_cons, List.length_nil] at hl h
      refine ih (u / 16) (by omega) (by omega) p _ r (by omega) ?_
      refine dig_step _ (u / 16) _ (u % 16) (Nat.mod_lt _ (by decide)) (by simp only [List.length_append, List.length_cons]; omega) (by omega) ?_ (by omega) r ?_
      · rw [← List.append_assoc, ← List.length_append, byt_app]
      · rw [show 16 * (u / 16) + u % 16 = u by omega]
        exact h
theorem tab_loop (l : List UInt8) (h1 : 1 < l.length) (r : Int × Int) (hr : Ev (fun k => deckleref07_sign.l1 k (ba l) ((0 : Nat) : Int) ((2 : Nat) : Int)) r) : ∀ (d i : Nat), i + d = 43 →
    Ev (fun k => deckleref07_sign.l0 k (ba l) (ints farR) (ba (nearL.map UInt8.ofNat)) (i : Int)) (if 0 < lookdn ((byt l 1 : Nat) : Int) (farR.drop i) (nearL.drop i) then (lookdn ((byt l 1 : Nat) : Int) (farR.drop i) (nearL.drop i), 2) else r)
  | 0, i, hd => by
    have hi : i = 43 := by omega
    subst hi
    rw [if_neg (by show ¬ (0 < (0 : Int)); decide)]
    refine Ev.step (fun k => ?_) hr
    simp only [deckleref07_sign.l0]
    rw [if_neg (by show ¬ ((43 : Int) < 43); decide)]
    rfl
  | d + 1, i, hd => by
    have hi : i < 43 := by omega
    obtain ⟨_, _, q2, q3, _, q5, _⟩ := tab_pair ⟨i, hi⟩
    simp only at q2 q3 q5
    have hz : (ba (nearL.map UInt8.ofNat)).size = 43 := rfl
    have hb : bt (ba (nearL.map UInt8.ofNat)) (i : Int) = ((nearL.getD i 0 : Nat) : Int) := by
      have : ∀ k : Fin 43, byt (nearL.map UInt8.ofNat) k.val = nearL.getD k.val 0 := by decide +kernel
      rw [bt_byt _ i (by rw [← ba_size, hz]; exact hi), this ⟨i, hi⟩]
    have hb1 : bt (ba l) 1 = ((byt l 1 : Nat) : Int) := bt_byt l 1 h1
    rw [lookdn_step _ i hi]
    by_cases h : ((nearL.getD i 0 : Nat) : Int) = ((byt l 1 : Nat) : Int)
    · rw [if_pos h, if_pos (by omega)]
      refine Ev.step (f := fun _ => some _) (fun k => ?_) (Ev.now _)
      simp only [deckleref07_sign.l0]
      rw [if_pos (by show (i : Int) < 43; omega), if_pos (by omega), if_pos (by rw [hz]; omega), if_pos (by rw [ba_size]; omega), hb, hb1, if_pos h, rdI]
    · rw [if_neg h]
      refine Ev.step (fun k => ?_) (tab_loop l h1 r hr d (i + 1) (by omega))
      simp only [deckleref07_sign.l0]
      rw [if_pos (by show (i : Int) < 43; omega), if_pos (by omega), if_pos (by rw [hz]; omega), if_pos (by rw [ba_size]; omega), hb, hb1, if_neg h, wrapI (by unfold I; omega)]
      rfl
theorem sign_tab (l : List UInt8) (h2 : 2 ≤ l.length) (h0 : byt l 0 = 64) (h1 : byt l 1 ≠ 64) (r : Int × Int) (hr : Ev (fun k => deckleref07_sign.l1 k (ba l) ((0 : Nat) : Int) ((2 : Nat) : Int)) r) :
    Ev (fun k => deckleref07_sign.f k (ba l)) (if 0 < lookdn ((byt l 1 : Nat) : Int) farR nearL then (lookdn ((byt l 1 : Nat) : Int) farR nearL, 2) else r) := by
  unfold deckleref07_sign.f
  have hb0 : bt (ba l) 0 = ((byt l 0 : Nat) : Int) := bt_byt l 0 (by omega)
  have hb1 : bt (ba l) 1 = ((byt l 1 : Nat) : Int) := bt_byt l 1 (by omega)
  rw [hb0, hb1]
  refine Ev.if_pos (by rw [ba_size]; omega) (Ev.if_pos (by omega) (Ev.if_neg (by rw [ba_size]; omega) (Ev.if_pos (by rw [ba_size]; omega) (Ev.if_neg (by omega) (Ev.bind0 table_f ?_)))))
  exact tab_loop l (by omega) r hr 43 0 rfl
theorem sign_plain (b : UInt8) (l : List UInt8) (h : b.toNat ≠ 64) : Ev (fun k => deckleref07_sign.f k (ba (b :: l))) ((b.toNat : Int), 1) := by
  unfold deckleref07_sign.f
  have hb0 : bt (ba (b :: l)) 0 = ((b.toNat : Nat) : Int) := bt_byt (b :: l) 0 (by simp)
  have hlt := b.toNat_lt
  rw [hb0]
  refine Ev.if_pos (by rw [ba_size]; simp only [List.length_cons]; omega) (Ev.if_neg (by omega) ?_)
  rw [wrapI (by unfold I; omega)]
  exact Ev.now _
theorem sign_mark (l : List UInt8) : Ev (fun k => deckleref07_sign.f k (ba (64 :: 64 :: l))) (64, 2) := by
  unfold deckleref07_sign.f
  have hb0 : bt (ba (64 :: 64 :: l)) 0 = ((64 : Nat) : Int) := bt_byt (64 :: 64 :: l) 0 (by simp)
  have hb1 : bt (ba (64 :: 64 :: l)) 1 = ((64 : Nat) : Int) := bt_byt (64 :: 64 :: l) 1 (by simp)
  rw [hb0, hb1]
  have hz : (ba (64 :: 64 :: l)).size = l.length + 2 := ba_size _
  exact Ev.if_pos (by rw [hz]; omega) (Ev.if_pos rfl (Ev.if_neg (by rw [hz]; omega) (Ev.if_pos (by rw [hz]; omega) (Ev.if_pos rfl (Ev.now _)))))
/-! ### sign answers, whatever comes -/
theorem l1_any (l : List UInt8) : ∀ (d i : Nat) (n : Int), i + d = 10 → 2 ≤ i → ∃ r : Int × Int, Ev (fun k => deckleref07_sign.l1 k (ba l) n (i : Int)) r ∧ 0 ≤ r.2 ∧ r.2 ≤ (l.length : Int)
  | 0, i, n, hd, h2 => by
    refine ⟨(0, 0), ?_, by simp, by simp⟩
    have hj : ∀ b, b = false → Ev (fun k => deckleref07_sign.j2 k (ba l) n (i : Int) b) (0, 0) := fun b hb => by
      subst hb
      refine Ev.step (f := fun _ => some _) (fun k => ?_) (Ev.now _)
      simp only [deckleref07_sign.j2]
      rw [if_neg (by decide)]
    by_cases c : (i : Int) < ((ba l).size : Int)
    · refine Ev.step (fun k => ?_) (hj (decide ((i : Int) < 10)) (decide_eq_false (by omega)))
      simp only [deckleref07_sign.l1]
      rw [if_pos c]
    · refine Ev.step (fun k => ?_) (hj false rfl)
      simp only [deckleref07_sign.l1]
      rw [if_neg c]
  | d + 1, i, n, hd, h2 => by
    by_cases c : i < l.length
    · have hbt := bt_byt l i c
      have hlt := byt_lt l i
      have hz : (i : Int) < ((ba l).size : Int) := by rw [ba_size]; omega
      have hw : wrap64 ((i : Int) + 1) = ((i + 1 : Nat) : Int) := by rw [wrapI (by unfold I; omega)]; omega
      have h0 : (0 : Int) ≤ (i : Int) := by omega
      have up : ∀ r : Int × Int, Ev (fun k => deckleref07_sign.j2 k (ba l) n (i : Int) true) r → Ev (fun k => deckleref07_sign.l1 k (ba l) n (i : Int)) r := fun r hr => by
        refine Ev.step (fun k => ?_) hr
        simp only [deckleref07_sign.l1]
        rw [if_pos hz, decide_eq_true (by omega)]
      by_cases c1 : byt l i = 125
      · refine ⟨(n, ((i + 1 : Nat) : Int)), up _ ?_, by simp only; omega, by simp only; omega⟩
        refine Ev.step (f := fun _ => some _) (fun k => ?_) (Ev.now _)
        simp only [deckleref07_sign.j2]
        rw [if_pos trivial, if_pos h0, if_pos hz, hbt, if_pos (by omega), hw]
      · by_cases c2 : 48 ≤ byt l i ∧ byt l i ≤ 57
        · obtain ⟨r, hr, h3⟩ := l1_any l d (i + 1) (wrap64 ((wrap64 (16 * n)) + (((bt (ba l) (i : Int)) - 48) % 256))) (by omega) (by omega)
          refine ⟨r, up _ (Ev.step (f := fun k => deckleref07_sign.j3 k (ba l) n (i : Int) true) (fun k => ?_) (Ev.step (fun k => ?_) hr)), h3⟩
          · simp only [deckleref07_sign.j2]
            rw [if_pos trivial, if_pos h0, if_pos hz, hbt, if_neg (by omega), if_pos (by omega), decide_eq_true (by omega)]
          · simp only [deckleref07_sign.j3]
            rw [if_pos trivial, if_pos h0, if_pos hz, hw]
        · have up2 : ∀ r : Int × Int, Ev (fun k => deckleref07_sign.j3 k (ba l) n (i : Int) false) r → Ev (fun k => deckleref07_sign.l1 k (ba l) n (i : Int)) r := fun r hr => by
            refine up r (Ev.step (fun k => ?_) hr)
            simp only [deckleref07_sign.j2]
            rw [if_pos trivial, if_pos h0, if_pos hz, hbt, if_neg (by omega)]
            by_cases c3 : 48 ≤ byt l i
            · rw [if_pos (by omega), decide_eq_false (by omega)]
            · rw [if_neg (by omega)]
          by_cases c4 : 65 ≤ byt l i ∧ byt l i ≤ 70
          · obtain ⟨r, hr, h3⟩ := l1_any l d (i + 1) (wrap64 ((wrap64 (16 * n)) + ((((bt (ba l) (i : Int)) - 65) % 256) + 10))) (by omega) (by omega)
            refine ⟨r, up2 _ (Ev.step (fun k => ?_) hr), h3⟩
            simp only [deckleref07_sign.j3]
            rw [if_neg (by decide), if_pos h0, if_pos hz, if_pos (by rw [hbt]; omega), if_pos (by rw [hbt]; omega), hw]
          · refine ⟨(0, 0), up2 _ (Ev.step (f := fun _ => some _) (fun k => ?_) (Ev.now _)), by simp, by simp⟩
            simp only [deckleref07_sign.j3]
            rw [if_neg (by decide), if_pos h0, if_pos hz, hbt]
            by_cases c5 : 65 ≤ byt l i
            · rw [if_pos (by omega), if_neg (by omega)]
            · rw [if_neg (by omega)]
    · refine ⟨(0, 0), ?_, by simp, by simp⟩
      refine Ev.step (f := fun k => deckleref07_sign.j2 k (ba l) n (i : Int) false) (fun k => ?_) (Ev.step (f := fun _ => some _) (fun k => ?_) (Ev.now _))
      · simp only [deckleref07_sign.l1]
        rw [if_neg (by rw [ba_size]; omega)]
      · simp only [deckleref07_sign.j2]
        rw [if_neg (by decide)]
theorem sign_esc (c : Nat) (h : Rn c) (t : List UInt8) : Ev (fun k => deckleref07_sign.f k (ba (escL c ++ t))) ((c : Int), ((escL c).length : Int)) := by
  rcases escL_ways c with ⟨h1, h2, h3, e⟩ | ⟨h1, e⟩ | ⟨k, h1, e⟩ | ⟨h1, h2, h3, e⟩ <;> rw [e]
  · have := sign_plain (UInt8.ofNat c) t (by rw [ofNat_lt (by omega)]; exact h3)
    rw [ofNat_lt (by omega)] at this
    exact this
  · subst h1
    exact sign_mark t
  · obtain ⟨_, q1, q2, q3, q4, q5, q6⟩ := tab_pair k
    have hb : (UInt8.ofNat (nearL.getD k.val 0)).toNat = nearL.getD k.val 0 := ofNat_lt (by omega)
    have e1 : byt ([64, UInt8.ofNat (nearL.getD k.val 0)] ++ t) 1 = nearL.getD k.val 0 := hb
    have hx : lookdn ((byt ([64, UInt8.ofNat (nearL.getD k.val 0)] ++ t) 1 : Nat) : Int) farR nearL = (c : Int) := by rw [e1, q1, h1]
    obtain ⟨r, hr, _⟩ := l1_any ([64, UInt8.ofNat (nearL.getD k.val 0)] ++ t) 8 2 ((0 : Nat) : Int) rfl (Nat.le_refl _)
    have := sign_tab ([64, UInt8.ofNat (nearL.getD k.val 0)] ++ t) (by simp) rfl (by rw [e1]; exact q4) r hr
    rw [hx, if_pos (by omega)] at this
    exact this
  · have hlen := upHex_len c (Rn_le h)
    have el : 64 :: 123 :: (upHex c ++ [125]) ++ t = [64, 123] ++ (upHex c ++ 125 :: t) := by simp
    rw [el]
    have hend : Ev (fun k => deckleref07_sign.l1 k (ba ([64, 123] ++ (upHex c ++ 125 :: t))) (c : Int) ((2 + (upHex c).length : Nat) : Int)) ((c : Int), ((2 + (upHex c).length + 1 : Nat) : Int)) := by
      have hb : byt ([64, 123] ++ (upHex c ++ 125 :: t)) (2 + (upHex c).length) = 125 := by
        have := byt_app ([64, 123] ++ upHex c) 125 t
        rw [List.append_assoc, List.length_append] at this
        exact this
      have hi : 2 + (upHex c).length < ([64, 123] ++ (upHex c ++ 125 :: t)).length := by simp only [List.length_append, List.length_cons, List.length_nil]; omega
      refine Ev.step (f := fun k => deckleref07_sign.j2 k (ba ([64, 123] ++ (upHex c ++ 125 :: t))) (c : Int) ((2 + (upHex c).length : Nat) : Int) true) (fun k => ?_) (Ev.step (f := fun _ => some _) (fun k => ?_) (Ev.now _))
      · simp only [deckleref07_sign.l1]
        rw [if_pos (by rw [ba_size]; omega), decide_eq_true (by omega)]
      · simp only [deckleref07_sign.j2]
        rw [if_pos trivial, if_pos (by omega), if_pos (by rw [ba_size]; omega), bt_byt _ _ hi, hb, if_pos (by decide), wrapI (by unfold I; omega)]
        rfl
    have hr := hex_read c (Rn_le h) [64, 123] (125 :: t) _ (by simp only [List.length_cons, List.length_nil]; omega) hend
    have := sign_tab ([64, 123] ++ (upHex c ++ 125 :: t)) (by simp) rfl (by show (123 : Nat) ≠ 64; decide) _ hr
    rw [show lookdn ((byt ([64, 123] ++ (upHex c ++ 125 :: t)) 1 : Nat) : Int) farR nearL = 0 from (by decide +kernel : lookdn ((123 : Nat) : Int) farR nearL = 0), if_neg (by decide)] at this
    have e3 : (64 :: 123 :: (upHex c ++ [125])).length = 2 + (upHex c).length + 1 := by simp only [List.length_append, List.length_cons, List.length_nil]; omega
    rw [e3]
    exact this
theorem sign_any (l : List UInt8) (hne : l ≠ []) : ∃ r : Int × Int, Ev (fun k => deckleref07_sign.f k (ba l)) r ∧ 0 ≤ r.2 ∧ r.2 ≤ (l.length : Int) := by
  match l, hne with
  | b :: t, _ =>
    by_cases h : b.toNat = 64
    · have e : b = 64 := by rw [← UInt8.ofNat_toNat (x := b), h]; rfl
      subst e
      match t with
      | [] =>
        refine ⟨(0, 0), ?_, by simp, by simp⟩
        unfold deckleref07_sign.f
        have hb0 : bt (ba [64]) 0 = ((64 : Nat) : Int) := bt_byt [64] 0 (by simp)
        rw [hb0]
        exact Ev.if_pos (by rw [ba_size]; simp) (Ev.if_pos rfl (Ev.if_pos (by rw [ba_size]; simp) (Ev.now _)))
      | a :: t =>
        by_cases h1 : a.toNat = 64
        · have e : a = 64 := by rw [← UInt8.ofNat_toNat (x := a), h1]; rfl
          subst e
          exact ⟨_, sign_mark t, by simp, by simp only [List.length_cons]; omega⟩
        · obtain ⟨r, hr, h3⟩ := l1_any (64 :: a :: t) 8 2 ((0 : Nat) : Int) rfl (Nat.le_refl _)
          refine ⟨_, sign_tab (64 :: a :: t) (by simp) rfl h1 r hr, ?_⟩
          split
          · simp only [List.length_cons]
            omega
          · exact h3
    · exact ⟨_, sign_plain b t h, by simp, by simp only [List.length_cons]; omega⟩
/-! ### Unescape -/
theorem un_any (t : List UInt8) : ∀ (n : Nat) (l acc : List UInt8), l.length ≤ n → acc.length + 4 * l.length ≤ 100000000 → ∃ r : ByteArray × Bool, Ev (fun k => deckleref07_Unescape.l0 k (ba t) (ba acc) (ba l)) r ∧ (r = (ba [], false) ∨ ∃ o, escE o = (t, true) ∧ r = (ba o, true)) := by
  have fin : ∀ acc : List UInt8, acc.length ≤ 100000000 → ∃ r : ByteArray × Bool, Ev (fun k => deckleref07_Unescape.l0 k (ba t) (ba acc) (ba [])) r ∧ (r = (ba [], false) ∨ ∃ o, escE o = (t, true) ∧ r = (ba o, true)) := by
    intro acc ha
    have hE := resc_ev acc ha
    by_cases c : (escE acc).2 = true ∧ (escE acc).1 = t
    · refine ⟨(ba acc, true), ?_, Or.inr ⟨acc, Prod.ext c.2 c.1, rfl⟩⟩
      refine Ev.step (f := fun k => deckleref07_Unescape.l0 (k + 1) (ba t) (ba acc) (ba [])) (fun _ => rfl) ?_
      simp only [deckleref07_Unescape.l0]
      exact Ev.if_pos (ba_toList _) (Ev.bind' hE (Ev.if_pos c.1 (Ev.if_pos (by rw [ba_toList, ba_toList]; exact c.2) (Ev.now _))))
    · refine ⟨(ba [], false), ?_, Or.inl rfl⟩
      refine Ev.step (f := fun k => deckleref07_Unescape.l0 (k + 1) (ba t) (ba acc) (ba [])) (fun _ => rfl) ?_
      simp only [deckleref07_Unescape.l0]
      refine Ev.if_pos (ba_toList _) (Ev.bind' hE ?_)
      by_cases c1 : (escE acc).2 = true
      · exact Ev.if_pos c1 (Ev.if_neg (by rw [ba_toList, ba_toList]; exact fun k => c ⟨c1, k⟩) (Ev.now _))
      · exact Ev.if_neg c1 (Ev.now _)
  intro n
  induction n with
  | zero =>
    intro l acc hn ha
    rw [List.eq_nil_of_length_eq_zero (Nat.le_zero.1 hn)]
    exact fin acc (by omega)
  | succ n ih =>
    intro l acc hn ha
    by_cases hne : l = []
    · rw [hne]
      exact fin acc (by omega)
    · obtain ⟨q, hq, h0, h1⟩ := sign_any l hne
      have hp : 0 < l.length := List.length_pos_iff.2 hne
      have open_ : ∀ r : ByteArray × Bool, Ev (fun k => if q.2 = 0 then some ((⟨#[]⟩ : ByteArray), false) else ((deckleref07_Bytes.f k q.1).bind fun t168 => (if (ba acc).size + t168.size ≤ 9223372036854775807 then (if 0 ≤ q.2 then (if q.2 ≤ ((ba l).size : Int) then (deckleref07_Unescape.l0 k (ba t) (ba acc ++ t168) ((ba l).extract (q.2 : Int).toNat (ba l).size)) else (none)) else (none)) else (none)))) r →
          Ev (fun k => deckleref07_Unescape.l0 k (ba t) (ba acc) (ba l)) r := fun r hr => by
        refine Ev.step (f := fun k => deckleref07_Unescape.l0 (k + 1) (ba t) (ba acc) (ba l)) (fun _ => rfl) ?_
        simp only [deckleref07_Unescape.l0]
        exact Ev.if_neg (by rw [ba_toList]; exact hne) (Ev.bind' hq hr)
      by_cases hz : q.2 = 0
      · exact ⟨(ba [], false), open_ _ (Ev.if_pos hz (Ev.now _)), Or.inl rfl⟩
      · obtain ⟨s, hs, hs4⟩ := bytes_any q.1
        obtain ⟨r, hr, h3⟩ := ih (l.drop q.2.toNat) (acc ++ s) (by rw [List.length_drop]; omega) (by rw [List.length_append, List.length_drop]; omega)
        refine ⟨r, open_ _ (Ev.if_neg hz (Ev.bind' hs (Ev.if_pos (by rw [ba_size, ba_size]; omega) (Ev.if_pos h0 (Ev.if_pos (by rw [ba_size]; exact h1) ?_))))), h3⟩
        rw [ext_drop, ba_append]
        exact hr
theorem un_good (t : List UInt8) : ∀ (rs : List Nat) (acc : List UInt8), (∀ c ∈ rs, Rn c) → escE (acc ++ enr rs) = (t, true) → acc.length + (enr rs).length ≤ 100000000 → Ev (fun k => deckleref07_Unescape.l0 k (ba t) (ba acc) (ba (escs rs))) (ba (acc ++ enr rs), true)
  | [], acc, _, he, hl => by
    have e : acc ++ enr [] = acc := List.append_nil _
    rw [e] at he ⊢
    refine Ev.step (f := fun k => deckleref07_Unescape.l0 (k + 1) (ba t) (ba acc) (ba (escs []))) (fun _ => rfl) ?_
    simp only [deckleref07_Unescape.l0]
    refine Ev.if_pos (ba_toList _) (Ev.bind' (resc_ev acc (by omega)) ?_)
    rw [he]
    exact Ev.if_pos rfl (Ev.if_pos rfl (Ev.now _))
  | c :: rs, acc, h, he, hl => by
    have hc := h c (by simp)
    rw [enr_cons, ← List.append_assoc] at he ⊢
    rw [enr_cons, List.length_append] at hl
    rw [escs_cons]
    have h1 : 1 ≤ (escL c).length := by
      rcases escL_ways c with ⟨_, _, _, e⟩ | ⟨_, e⟩ | ⟨k, _, e⟩ | ⟨_, _, _, e⟩ <;> rw [e] <;> simp
    have hne : escL c ++ escs rs ≠ [] := by
      intro k
      rw [(List.append_eq_nil_iff.1 k).1] at h1
      exact absurd h1 (by decide)
    refine Ev.step (f := fun k => deckleref07_Unescape.l0 (k + 1) (ba t) (ba acc) (ba (escL c ++ escs rs))) (fun _ => rfl) ?_
    simp only [deckleref07_Unescape.l0]
    refine Ev.if_neg (by rw [ba_toList]; exact hne) (Ev.bind' (sign_esc c hc _) (Ev.if_neg (by simp only; omega) (Ev.bind' (bytes_ev c hc) (Ev.if_pos (by rw [ba_size, ba_size]; omega) (Ev.if_pos (by simp only; omega) (Ev.if_pos (by rw [ba_size, List.length_append]; simp only; omega) ?_))))))
    simp only
    rw [Int.toNat_natCast, ext_drop, List.drop_left, ba_append]
    exact un_good t rs _ (fun x hx => h x (by simp [hx])) he (by rw [List.length_append]; omega)
theorem run_ev (t : List UInt8) (hl : t.length ≤ 10000000) : Ev (fun k => deckleref07_Unescape.f k (ba t)) (ba (unE t).1, (unE t).2) := by
  unfold deckleref07_Unescape.f
  rcases unE_or t with ⟨rs, h1, h2, h3⟩ | ⟨h1, h2⟩
  · have hb := encs_len rs
    rw [← h2] at hb
    have := un_good t rs [] h1 (by rw [List.nil_append, h2]; exact escE_encs rs h1) (by show 0 + (Si.encs rs).length ≤ _; omega)
    rw [List.nil_append, ← h2] at this
    rw [h3]
    exact this
  · rw [h2]
    obtain ⟨r, hr, h3 | ⟨o, ho, _⟩⟩ := un_any t t.length t [] (Nat.le_refl _) (by simp only [List.length_nil]; omega)
    · rw [h3] at hr
      exact hr
    · exact absurd ho (h1 o)
end Go.Proofs.YtenngdkgahngjaaDoor.SiRef
