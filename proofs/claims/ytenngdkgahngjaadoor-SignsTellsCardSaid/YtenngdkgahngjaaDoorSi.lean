/- Signs' plain law: runes of a text, its escape, and that reading the escape gives the text. -/
import Derived.Test.YtenngdkgahngjaaDoorSgZ
import Derived.Test.YtenngdkgahngjaaDoorBa
import Derived.Lib.ValidLaws
import Derived.Lib.IndexLaws
import Derived.Lib.SplitLaws
namespace Go.Proofs.YtenngdkgahngjaaDoor.Si
open Go.RowKit Go.Proofs.YtenngdkgahngjaaDoor.All Go.Lib
set_option linter.unusedVariables false
set_option linter.unusedSimpArgs false
/-- A rune that is right. -/
def Rn (c : Nat) : Prop := c < 55296 ∨ (57343 < c ∧ c ≤ 1114111)
theorem ofNat_lt {n : Nat} (h : n < 256) : (UInt8.ofNat n).toNat = n := by rw [UInt8.toNat_ofNat']; omega
theorem enc1 {c : Nat} (h : c < 128) : encodeRune (c : Int) = [UInt8.ofNat c] := by
  unfold encodeRune
  rw [encodeRuneZ_one (by omega) (by omega)]
  rfl
theorem enc2 {c : Nat} (h0 : 128 ≤ c) (h : c < 2048) : encodeRune (c : Int) = [UInt8.ofNat (192 + c / 64), UInt8.ofNat (128 + c % 64)] := by
  unfold encodeRune
  rw [encodeRuneZ_two (by omega) (by omega)]
  rfl
theorem enc3 {c : Nat} (h0 : 2048 ≤ c) (h : c < 65536) (hs : c < 55296 ∨ 57343 < c) : encodeRune (c : Int) = [UInt8.ofNat (224 + c / 4096), UInt8.ofNat (128 + c / 64 % 64), UInt8.ofNat (128 + c % 64)] := by
  unfold encodeRune
  rw [encodeRuneZ_three (by omega)]
  rfl
theorem enc4 {c : Nat} (h0 : 65536 ≤ c) (h : c ≤ 1114111) : encodeRune (c : Int) = [UInt8.ofNat (240 + c / 262144), UInt8.ofNat (128 + c / 4096 % 64), UInt8.ofNat (128 + c / 64 % 64), UInt8.ofNat (128 + c % 64)] := by
  unfold encodeRune
  rw [encodeRuneZ_four (by omega) (by omega)]
  rfl
/-- What was encoded is decoded, whatever follows. -/
theorem decode_encode (c : Nat) (h : Rn c) (t : List UInt8) : decodeL (encodeRune (c : Int) ++ t) = (c, (encodeRune (c : Int)).length) := by
  unfold Rn at h
  by_cases h1 : c < 128
  · rw [enc1 h1, decodeL_N]
    simp only [List.cons_append, List.nil_append, List.getD_cons_zero, ofNat_lt (show c < 256 by omega), decodeN, if_pos h1]
    rfl
  · by_cases h2 : c < 2048
    · rw [enc2 (by omega) h2, decodeL_N]
      simp only [List.cons_append, List.nil_append, List.getD_cons_zero, List.getD_cons_succ, List.length_cons, ofNat_lt (show 192 + c / 64 < 256 by omega), ofNat_lt (show 128 + c % 64 < 256 by omega), List.length_nil]
      unfold decodeN
      rw [if_neg (by omega), if_pos (by omega), if_pos (by omega)]
      exact Prod.ext (by simp only; omega) rfl
    · by_cases h3 : c < 65536
      · rw [enc3 (by omega) h3 (by omega), decodeL_N]
        simp only [List.cons_append, List.nil_append, List.getD_cons_zero, List.getD_cons_succ, List.length_cons, ofNat_lt (show 224 + c / 4096 < 256 by omega), ofNat_lt (show 128 + c / 64 % 64 < 256 by omega), ofNat_lt (show 128 + c % 64 < 256 by omega), List.length_nil]
        unfold decodeN
        rw [if_neg (by omega), if_neg (by omega), if_pos (by omega), if_pos (by omega)]
        exact Prod.ext (by simp only; omega) rfl
      · rw [enc4 (by omega) (by omega), decodeL_N]
        simp only [List.cons_append, List.nil_append, List.getD_cons_zero, List.getD_cons_succ, List.length_cons, ofNat_lt (show 240 + c / 262144 < 256 by omega), ofNat_lt (show 128 + c / 4096 % 64 < 256 by omega), ofNat_lt (show 128 + c / 64 % 64 < 256 by omega), ofNat_lt (show 128 + c % 64 < 256 by omega), List.length_nil]
        unfold decodeN
        rw [if_neg (by omega), if_neg (by omega), if_neg (by omega), if_pos (by omega), if_pos (by omega)]
        exact Prod.ext (by simp only; omega) rfl
theorem enc_len (c : Int) : 1 ≤ (encodeRune c).length ∧ (encodeRune c).length ≤ 4 := by rw [← runeCells_length]; exact runeCells_le c
theorem enc_ne (c : Int) (t : List UInt8) : encodeRune c ++ t ≠ [] := by
  intro h
  have := (enc_len c).1
  rw [(List.append_eq_nil_iff.1 h).1] at this
  exact absurd this (by decide)
/-- The rune that stands at the head of bytes that are right. -/
theorem decodeL_Rn (l : List UInt8) (hv : ¬ ((decodeL l).1 = 65533 ∧ (decodeL l).2 = 1)) : Rn (decodeL l).1 := by
  have k0 := (l.getD 0 0).toNat_lt
  unfold Rn
  rw [decodeL_N] at hv ⊢
  rcases decodeN_shape l.length (l.getD 0 0).toNat (l.getD 1 0).toNat (l.getD 2 0).toNat (l.getD 3 0).toNat with ⟨c, e⟩ | ⟨c1, c2, c3, cv, e⟩ | ⟨c1, c2, c3, c4, cv, cs, e⟩ | ⟨c1, c2, c3, c4, c5, cv, cw, e⟩ | e
  all_goals rw [e] at hv ⊢
  all_goals simp only at hv ⊢
  all_goals omega
/-- The bytes of runes; their escapes. -/
def encs (rs : List Nat) : List UInt8 := rs.flatMap fun (c : Nat) => encodeRune (c : Int)
def escs (rs : List Nat) : List UInt8 := rs.flatMap escL
theorem valid_encs : ∀ rs : List Nat, (∀ c ∈ rs, Rn c) → ∀ t, validD (encs rs ++ t) = validD t
  | [], _, t => rfl
  | c :: rs, h, t => by
    have hc := h c (by simp)
    have e : encs (c :: rs) ++ t = encodeRune (c : Int) ++ (encs rs ++ t) := by simp [encs]
    rw [e, validD_step _ (enc_ne _ _), decode_encode c hc]
    have hne : ¬ (c = 65533 ∧ (encodeRune (c : Int)).length = 1) := by
      rintro ⟨h1, h2⟩
      rw [h1, enc3 (by omega) (by omega) (by omega)] at h2
      exact absurd h2 (by decide)
    rw [if_neg hne, List.drop_left]
    exact valid_encs rs (fun x hx => h x (by simp [hx])) t
theorem runes_of : ∀ (n : Nat) (l : List UInt8), l.length ≤ n → validD l = true → ∃ rs : List Nat, (∀ c ∈ rs, Rn c) ∧ l = encs rs
  | 0, l, hn, _ => ⟨[], by simp, List.eq_nil_of_length_eq_zero (by omega)⟩
  | n + 1, l, hn, h => by
    by_cases hne : l = []
    · exact ⟨[], by simp, hne⟩
    · rw [validD_step l hne] at h
      by_cases hv : (decodeL l).1 = 65533 ∧ (decodeL l).2 = 1
      · rw [if_pos hv] at h
        exact absurd h (by decide)
      · rw [if_neg hv] at h
        have hw := decodeL_width l
        have hl : 0 < l.length := List.length_pos_iff.2 hne
        obtain ⟨rs, h1, h2⟩ := runes_of n (l.drop (decodeL l).2) (by rw [List.length_drop]; omega) h
        refine ⟨(decodeL l).1 :: rs, fun c hc => ?_, ?_⟩
        · rcases List.mem_cons.1 hc with rfl | hc
          · exact decodeL_Rn l hv
          · exact h1 c hc
        · show l = encodeRune ((decodeL l).1 : Int) ++ encs rs
          rw [encode_decode l hne hv, ← h2, List.take_append_drop]
theorem escFrom_encs (s : ByteArray) : ∀ (rs : List Nat) (pos f : Nat), (∀ c ∈ rs, Rn c) → s.data.toList.drop pos = encs rs → s.size - pos ≤ f → pos ≤ s.size → escFrom s f pos = escs rs
  | [], pos, f, _, he, hf, hp => by
    have : s.size ≤ pos := by
      have := congrArg List.length he
      rw [List.length_drop, ← size_eq] at this
      simp only [encs, List.flatMap_nil, List.length_nil] at this
      omega
    exact escFrom_end s f pos (by omega)
  | c :: rs, pos, f, h, he, hf, hp => by
    have hc := h c (by simp)
    have e : encs (c :: rs) = encodeRune (c : Int) ++ encs rs := by simp [encs]
    rw [e] at he
    have hd := decode_encode c hc (encs rs)
    rw [← he, decodeL_drop] at hd
    have hlen := congrArg List.length he
    rw [List.length_drop, ← size_eq, List.length_append] at hlen
    have h1 := (enc_len (c : Int)).1
    obtain ⟨f, rfl⟩ : ∃ g, f = g + 1 := ⟨f - 1, by omega⟩
    rw [escFrom, if_pos (by omega), hd]
    simp only
    rw [escFrom_encs s rs (pos + (encodeRune (c : Int)).length) f (fun x hx => h x (by simp [hx])) (by rw [← List.drop_drop, he, List.drop_left]) (by omega) (by omega)]
    simp [escs]
theorem escS_encs (rs : List Nat) (h : ∀ c ∈ rs, Rn c) : escS ⟨(encs rs).toArray⟩ = escs rs := escFrom_encs _ rs 0 _ h rfl (by omega) (by omega)
theorem escE_encs (rs : List Nat) (h : ∀ c ∈ rs, Rn c) : escE (encs rs) = (escs rs, true) := by
  have := valid_encs rs h []
  rw [List.append_nil] at this
  unfold escE
  rw [if_pos (by rw [this]; rfl), escS_encs rs h]
theorem escE_or (l : List UInt8) : (∃ rs, (∀ c ∈ rs, Rn c) ∧ l = encs rs ∧ escE l = (escs rs, true)) ∨ (validD l = false ∧ escE l = ([], false)) := by
  cases h : validD l with
  | true =>
    obtain ⟨rs, h1, h2⟩ := runes_of l.length l (Nat.le_refl _) h
    exact Or.inl ⟨rs, h1, h2, by rw [h2]; exact escE_encs rs h1⟩
  | false => exact Or.inr ⟨rfl, by unfold escE; rw [h]; rfl⟩
/-! ### the table -/
theorem tab_pair : ∀ k : Fin 43, lookup (farR.getD k.val 0 : Nat) farR nearL = (nearL.getD k.val 0 : Nat) ∧ lookdn (nearL.getD k.val 0 : Nat) farR nearL = (farR.getD k.val 0 : Nat) ∧ 32 < nearL.getD k.val 0 ∧ nearL.getD k.val 0 < 127 ∧ nearL.getD k.val 0 ≠ 64 ∧ 126 < farR.getD k.val 0 ∧ farR.getD k.val 0 < 55296 := by decide +kernel
theorem lookup_mem (c : Int) : ∀ (xs ys : List Nat), 0 < lookup c xs ys → ∃ k, k < xs.length ∧ c = (xs.getD k 0 : Nat)
  | [], ys, h => by cases ys <;> simp [lookup] at h
  | x :: xs, [], h => by simp [lookup] at h
  | x :: xs, y :: ys, h => by
    rw [lookup] at h
    by_cases e : (x : Int) = c
    · exact ⟨0, by simp, e.symm⟩
    · rw [if_neg e] at h
      obtain ⟨k, h1, h2⟩ := lookup_mem c xs ys h
      exact ⟨k + 1, by simp only [List.length_cons]; omega, h2⟩
theorem lookup_at {c : Nat} (h : 0 < lookup (c : Int) farR nearL) : ∃ k : Fin 43, c = farR.getD k.val 0 ∧ lookup (c : Int) farR nearL = (nearL.getD k.val 0 : Nat) := by
  obtain ⟨k, h1, h2⟩ := lookup_mem _ _ _ h
  have h2' : c = farR.getD k 0 := by omega
  exact ⟨⟨k, h1⟩, h2', by rw [h2']; exact (tab_pair ⟨k, h1⟩).1⟩
/-! ### an escape's ways -/
theorem escL_plain {c : Nat} (h : 32 ≤ c ∧ c ≤ 126 ∧ c ≠ 64) : escL c = [UInt8.ofNat c] := by unfold escL; rw [if_pos h]
theorem escL_mark : escL 64 = [64, 64] := rfl
theorem escL_ways (c : Nat) : (32 ≤ c ∧ c ≤ 126 ∧ c ≠ 64 ∧ escL c = [UInt8.ofNat c]) ∨ (c = 64 ∧ escL c = [64, 64]) ∨ (∃ k : Fin 43, c = farR.getD k.val 0 ∧ escL c = [64, UInt8.ofNat (nearL.getD k.val 0)]) ∨ (lookup (c : Int) farR nearL = 0 ∧ ¬ (32 ≤ c ∧ c ≤ 126 ∧ c ≠ 64) ∧ c ≠ 64 ∧ escL c = 64 :: 123 :: (upHex c ++ [125])) := by
  by_cases h1 : 32 ≤ c ∧ c ≤ 126 ∧ c ≠ 64
  · exact Or.inl ⟨h1.1, h1.2.1, h1.2.2, escL_plain h1⟩
  · by_cases h2 : c = 64
    · subst h2
      exact Or.inr (Or.inl ⟨rfl, rfl⟩)
    · by_cases h3 : 0 < lookup (c : Int) farR nearL
      · obtain ⟨k, e1, e2⟩ := lookup_at h3
        refine Or.inr (Or.inr (Or.inl ⟨k, e1, ?_⟩))
        unfold escL
        rw [if_neg h1, if_neg h2, if_pos h3, e2]
        rfl
      · refine Or.inr (Or.inr (Or.inr ⟨?_, h1, h2, ?_⟩))
        · have := (lookup_le (c : Int) 255 farR nearL (by decide +kernel)).1
          omega
        · unfold escL
          rw [if_neg h1, if_neg h2, if_neg h3]
/-! ### hexadecimal digits -/
theorem hex_up : ∀ d : Fin 16, digit16 (toUpperA [hexDig d.val]).head!.toNat = some d.val ∧ (toUpperA [hexDig d.val]).head! ≠ 43 ∧ (toUpperA [hexDig d.val]).head! ≠ 45 ∧ (toUpperA [hexDig d.val]).head! ≠ 125 ∧ 32 < (toUpperA [hexDig d.val]).head!.toNat ∧ (toUpperA [hexDig d.val]).head!.toNat < 127 := by decide +kernel
def upDig (d : Nat) : UInt8 := (toUpperA [hexDig d]).head!
theorem upHex_small {u : Nat} (h : u < 16) : upHex u = [upDig u] := by
  unfold upHex upDig
  rw [hexD_small h]
  rfl
theorem upHex_big {u : Nat} (h : ¬ u < 16) : upHex u = upHex (u / 16) ++ [upDig (u % 16)] := by
  unfold upHex upDig
  rw [hexD_big h]
  unfold toUpperA
  rw [List.map_append]
  rfl
theorem upHex_all (P : UInt8 → Prop) (h : ∀ d, d < 16 → P (upDig d)) (u : Nat) : ∀ b ∈ upHex u, P b := by
  induction u using Nat.strongRecOn with
  | _ u ih =>
    by_cases hu : u < 16
    · rw [upHex_small hu]
      intro b hb
      rw [List.mem_singleton.1 hb]
      exact h u hu
    · rw [upHex_big hu]
      intro b hb
      rcases List.mem_append.1 hb with hb | hb
      · exact ih (u / 16) (by omega) b hb
      · rw [List.mem_singleton.1 hb]
        exact h _ (Nat.mod_lt _ (by decide))
theorem upHex_ne (u : Nat) : upHex u ≠ [] := by
  by_cases hu : u < 16
  · rw [upHex_small hu]; simp
  · rw [upHex_big hu]; simp
theorem pU_hex (u : Nat) : u ≤ 4294967295 → ∀ l, pU (upHex u ++ l) 0 = pU l u := by
  induction u using Nat.strongRecOn with
  | _ u ih =>
    intro hb l
    by_cases hu : u < 16
    · rw [upHex_small hu]
      show pU (upDig u :: l) 0 = _
      rw [pU, show digit16 (upDig u).toNat = some u from (hex_up ⟨u, hu⟩).1]
      simp only
      rw [if_neg (by omega), Nat.mul_zero, Nat.zero_add]
    · rw [upHex_big hu, List.append_assoc, ih (u / 16) (by omega) (by omega)]
      show pU (upDig (u % 16) :: l) (u / 16) = _
      rw [pU, show digit16 (upDig (u % 16)).toNat = some (u % 16) from (hex_up ⟨u % 16, Nat.mod_lt _ (by decide)⟩).1]
      simp only
      rw [if_neg (by omega)]
      congr 1
      omega
theorem pI_hex (c : Nat) (h : c ≤ 1114111) : pI (upHex c) = ((c : Int), 0) := by
  have hp := pU_hex c (by omega) []
  rw [List.append_nil] at hp
  have hv : pV (upHex c) = (c, 0) := by
    unfold pV
    rw [if_neg (upHex_ne c), hp]
    rfl
  have hs : pS false (upHex c) = ((c : Int), 0) := by
    unfold pS
    rw [hv]
    simp only
    rw [if_neg (by decide), if_neg (by decide), if_neg (by omega)]
  cases hx : upHex c with
  | nil => exact absurd hx (upHex_ne c)
  | cons a l =>
    have ha := upHex_all (fun b => b ≠ 43 ∧ b ≠ 45) (fun d hd => ⟨(hex_up ⟨d, hd⟩).2.1, (hex_up ⟨d, hd⟩).2.2.1⟩) c a (by rw [hx]; simp)
    rw [hx] at hs
    show (if a = 43 then pS false l else if a = 45 then pS true l else pS false (a :: l)) = _
    rw [if_neg ha.1, if_neg ha.2, hs]
/-! ### Cut at one byte -/
theorem index_cons (b c : UInt8) (l : List UInt8) : index (b :: l) [c] = if b = c then 0 else if index l [c] == -1 then -1 else index l [c] + 1 := by
  rw [index]
  by_cases h : b = c
  · rw [if_pos h, if_pos (by simp [h])]
  · rw [if_neg h, if_neg (by simp; exact fun k => h k.symm)]
theorem cut_hit (c : UInt8) (l : List UInt8) : cut (c :: l) [c] = ([], l, true) := by
  unfold cut
  rw [index_cons, if_pos rfl]
  simp
theorem cut_miss (b c : UInt8) (l : List UInt8) (h : b ≠ c) : cut (b :: l) [c] = (b :: (cut l [c]).1, (cut l [c]).2.1, (cut l [c]).2.2) := by
  have hg := index_ge l [c]
  have hi : index (b :: l) [c] = if index l [c] == -1 then -1 else index l [c] + 1 := by rw [index_cons, if_neg h]
  unfold cut
  rw [hi]
  generalize index l [c] = i at hg
  by_cases h1 : i = -1
  · subst h1
    simp
  · have h0 : 0 ≤ i := by omega
    have e2 : (i == -1) = false := beq_eq_false_iff_ne.2 h1
    rw [e2]
    simp only [Bool.false_eq_true, if_false]
    rw [if_pos (by omega), if_pos h0]
    have e : (i + 1).toNat = i.toNat + 1 := by omega
    rw [e]
    simp only [List.take_succ_cons, List.length_cons, List.length_nil, Prod.mk.injEq, true_and, and_true]
    rw [show i.toNat + 1 + (0 + 1) = (i.toNat + (0 + 1)) + 1 by omega, List.drop_succ_cons]
theorem cut_nil (c : UInt8) : cut [] [c] = ([], [], false) := rfl
theorem cut_app (c : UInt8) : ∀ (x l : List UInt8), (∀ b ∈ x, b ≠ c) → cut (x ++ c :: l) [c] = (x, l, true)
  | [], l, _ => cut_hit c l
  | b :: x, l, h => by
    rw [List.cons_append, cut_miss b c _ (h b (by simp)), cut_app c x l (fun y hy => h y (by simp [hy]))]
/-! ### the escape read -/
theorem sgn_esc (c : Nat) (h : Rn c) (x : List UInt8) (he : escL c = 64 :: x) (t : List UInt8) : sgn (x ++ t) = ((c : Int), t, true) := by
  rcases escL_ways c with ⟨h1, h2, h3, e⟩ | ⟨h1, e⟩ | ⟨k, h1, e⟩ | ⟨h1, h2, h3, e⟩
  · rw [e] at he
    have := (List.cons.inj he).1
    have h4 : (UInt8.ofNat c).toNat = 64 := by rw [this]; rfl
    rw [ofNat_lt (by omega)] at h4
    omega
  · rw [e] at he
    obtain rfl := (List.cons.inj he).2
    subst h1
    rfl
  · rw [e] at he
    obtain rfl := (List.cons.inj he).2
    obtain ⟨_, q1, q2, q3, q4, q5, q6⟩ := tab_pair k
    have hb : (UInt8.ofNat (nearL.getD k.val 0)).toNat = nearL.getD k.val 0 := ofNat_lt (by omega)
    show sgn (UInt8.ofNat (nearL.getD k.val 0) :: t) = _
    unfold sgn
    simp only
    rw [if_neg (fun h64 => q4 (by rw [← hb, h64]; rfl)), hb, q1, if_pos (by omega), h1]
  · rw [e] at he
    obtain rfl := (List.cons.inj he).2
    have hc : c ≤ 1114111 := by unfold Rn at h; omega
    have e1 : (123 :: (upHex c ++ [125])) ++ t = 123 :: (upHex c ++ 125 :: t) := by simp
    rw [e1]
    unfold sgn
    simp only
    have hcut : cut (123 :: (upHex c ++ 125 :: t)) [125] = (123 :: upHex c, t, true) := by
      have := cut_app 125 (123 :: upHex c) t (fun b hb => by
        rcases List.mem_cons.1 hb with rfl | hb
        · decide
        · exact upHex_all (fun b => b ≠ 125) (fun d hd => (hex_up ⟨d, hd⟩).2.2.2.1) c b hb)
      simpa using this
    rw [if_neg (by decide), if_neg (by decide +kernel), hcut]
    have hp : hasPrefix (123 :: upHex c) [123] = true := by simp [hasPrefix, List.isPrefixOf]
    have ht : trimPrefix (123 :: upHex c) [123] = upHex c := by unfold trimPrefix; rw [if_pos hp]; rfl
    simp only
    rw [if_pos hp, ht, pI_hex c hc]
    have hv : Go.Lib.validRune (c : Int) = true := by
      unfold Go.Lib.validRune
      unfold Rn at h
      exact decide_eq_true (by omega)
    simp only
    rw [hv]
    simp
theorem parseS_nil (f : Nat) (acc : List UInt8) : parseS (f + 1) [] acc = some acc := by rw [parseS, if_pos rfl]
theorem parseS_byte (f : Nat) (b : UInt8) (h : b ≠ 64) (l acc : List UInt8) : parseS (f + 1) (b :: l) acc = parseS (f + 1) l (acc ++ [b]) := by
  rw [parseS, parseS, if_neg (by simp), cut_miss b 64 l h]
  simp only
  by_cases hl : l = []
  · subst hl
    rw [if_pos rfl, cut_nil]
    simp
  · rw [if_neg hl]
    simp only [List.append_assoc, List.cons_append, List.nil_append]
theorem parseS_mark (f : Nat) (c : Nat) (h : Rn c) (x : List UInt8) (he : escL c = 64 :: x) (l acc : List UInt8) : parseS (f + 1) (64 :: x ++ l) acc = parseS f l (acc ++ encodeRune (c : Int)) := by
  rw [parseS, if_neg (by simp), List.cons_append, cut_hit, if_neg (by simp)]
  simp only
  rw [sgn_esc c h x he l]
  simp
theorem parse_escs : ∀ (rs : List Nat), (∀ c ∈ rs, Rn c) → ∀ (f : Nat) (acc : List UInt8), (escs rs).length < f → parseS f (escs rs) acc = some (acc ++ encs rs)
  | [], _, f, acc, hf => by
    obtain ⟨f, rfl⟩ : ∃ g, f = g + 1 := ⟨f - 1, by omega⟩
    show parseS (f + 1) [] acc = some (acc ++ [])
    rw [parseS_nil, List.append_nil]
  | c :: rs, h, f, acc, hf => by
    have hc := h c (by simp)
    obtain ⟨f, rfl⟩ : ∃ g, f = g + 1 := ⟨f - 1, by omega⟩
    have e1 : escs (c :: rs) = escL c ++ escs rs := by simp [escs]
    have e2 : encs (c :: rs) = encodeRune (c : Int) ++ encs rs := by simp [encs]
    have hr := fun x hx => h x (List.mem_cons_of_mem c hx)
    rw [e1] at hf ⊢
    rw [List.length_append] at hf
    rw [e2, ← List.append_assoc]
    rcases escL_ways c with ⟨h1, h2, h3, e⟩ | ⟨h1, e⟩ | ⟨k, h1, e⟩ | ⟨h1, h2, h3, e⟩
    · rw [e] at hf ⊢
      rw [List.cons_append, List.nil_append, parseS_byte f _ (fun k => by
        have h4 : (UInt8.ofNat c).toNat = 64 := by rw [k]; rfl
        rw [ofNat_lt (by omega)] at h4
        omega), parse_escs rs hr (f + 1) _ (by simp only [List.length_cons, List.length_nil] at hf; omega), enc1 (by omega)]
    · have := parseS_mark f c hc _ e (escs rs) acc
      rw [e] at hf ⊢
      rw [this]
      exact parse_escs rs hr f _ (by simp only [List.length_cons, List.length_nil] at hf; omega)
    · have := parseS_mark f c hc _ e (escs rs) acc
      rw [e] at hf ⊢
      rw [this]
      exact parse_escs rs hr f _ (by simp only [List.length_cons, List.length_nil] at hf; omega)
    · have := parseS_mark f c hc _ e (escs rs) acc
      rw [e] at hf ⊢
      rw [this]
      exact parse_escs rs hr f _ (by simp only [List.length_cons] at hf; omega)
/-- An escaped text is read as it was. -/
theorem unE_escs (rs : List Nat) (h : ∀ c ∈ rs, Rn c) : unE (escs rs) = (encs rs, true) := by
  unfold unE
  rw [parse_escs rs h _ _ (Nat.lt_succ_self _), List.nil_append]
  simp only
  rw [escE_encs rs h, if_pos ⟨rfl, rfl⟩]
/-- What is read was escaped just so. -/
theorem unE_or (t : List UInt8) : (∃ rs, (∀ c ∈ rs, Rn c) ∧ t = escs rs ∧ unE t = (encs rs, true)) ∨ ((∀ o, escE o ≠ (t, true)) ∧ unE t = ([], false)) := by
  by_cases hx : ∃ o, escE o = (t, true)
  · obtain ⟨o, ho⟩ := hx
    rcases escE_or o with ⟨rs, h1, h2, h3⟩ | ⟨_, h3⟩
    · rw [h3] at ho
      have e : escs rs = t := congrArg Prod.fst ho
      subst e
      exact Or.inl ⟨rs, h1, rfl, unE_escs rs h1⟩
    · rw [h3] at ho
      exact absurd (congrArg Prod.snd ho) (by simp)
  · refine Or.inr ⟨fun o k => hx ⟨o, k⟩, ?_⟩
    unfold unE
    split
    · rfl
    · rename_i o ho
      rw [if_neg]
      rintro ⟨k1, k2⟩
      exact hx ⟨o, Prod.ext k2 k1⟩
theorem escL_bytes (c : Nat) : ∀ b ∈ escL c, 32 ≤ b.toNat ∧ b.toNat ≤ 126 := by
  intro b hb
  rcases escL_ways c with ⟨h1, h2, h3, e⟩ | ⟨h1, e⟩ | ⟨k, h1, e⟩ | ⟨h1, h2, h3, e⟩ <;> rw [e] at hb
  · rw [List.mem_singleton.1 hb, ofNat_lt (by omega)]
    omega
  · rcases List.mem_cons.1 hb with rfl | hb
    · decide
    · rw [List.mem_singleton.1 hb]
      decide
  · obtain ⟨_, q1, q2, q3, q4, q5, q6⟩ := tab_pair k
    rcases List.mem_cons.1 hb with rfl | hb
    · decide
    · rw [List.mem_singleton.1 hb, ofNat_lt (by omega)]
      omega
  · rcases List.mem_cons.1 hb with rfl | hb
    · decide
    · rcases List.mem_cons.1 hb with rfl | hb
      · decide
      · rcases List.mem_append.1 hb with hb | hb
        · have := upHex_all (fun b => 32 < b.toNat ∧ b.toNat < 127) (fun d hd => (hex_up ⟨d, hd⟩).2.2.2.2) c b hb
          omega
        · rw [List.mem_singleton.1 hb]
          decide
theorem escs_bytes (rs : List Nat) : ∀ b ∈ escs rs, 32 ≤ b.toNat ∧ b.toNat ≤ 126 := by
  intro b hb
  obtain ⟨c, _, hb⟩ := List.mem_flatMap.1 hb
  exact escL_bytes c b hb
theorem escs_len : ∀ rs : List Nat, (∀ c ∈ rs, Rn c) → (escs rs).length ≤ 9 * (encs rs).length
  | [], _ => Nat.le_refl _
  | c :: rs, h => by
    have e1 : escs (c :: rs) = escL c ++ escs rs := by simp [escs]
    have e2 : encs (c :: rs) = encodeRune (c : Int) ++ encs rs := by simp [encs]
    have ih := escs_len rs (fun x hx => h x (by simp [hx]))
    have h1 := (enc_len (c : Int)).1
    have h2 := escL_len c (by have := h c (by simp); unfold Rn at this; omega)
    rw [e1, e2, List.length_append, List.length_append]
    omega
theorem escs_append (a b : List Nat) : escs (a ++ b) = escs a ++ escs b := List.flatMap_append
theorem encs_append (a b : List Nat) : encs (a ++ b) = encs a ++ encs b := List.flatMap_append
/-- Plain signs stand for themselves. -/
theorem plain_runes : ∀ (l : List UInt8), (∀ b ∈ l, 32 ≤ b.toNat ∧ b.toNat ≤ 126 ∧ b.toNat ≠ 64) → ∃ rs, (∀ c ∈ rs, Rn c) ∧ encs rs = l ∧ escs rs = l
  | [], _ => ⟨[], by simp, rfl, rfl⟩
  | b :: l, h => by
    obtain ⟨rs, h1, h2, h3⟩ := plain_runes l (fun x hx => h x (by simp [hx]))
    have hb := h b (by simp)
    have eb : UInt8.ofNat b.toNat = b := UInt8.ofNat_toNat
    refine ⟨b.toNat :: rs, fun c hc => ?_, ?_, ?_⟩
    · rcases List.mem_cons.1 hc with rfl | hc
      · exact Or.inl (by omega)
      · exact h1 c hc
    · have : encs (b.toNat :: rs) = encodeRune (b.toNat : Int) ++ encs rs := by simp [encs]
      rw [this, enc1 (by omega), eb, h2]
      rfl
    · have : escs (b.toNat :: rs) = escL b.toNat ++ escs rs := by simp [escs]
      rw [this, escL_plain hb, eb, h3]
      rfl
theorem encs_len : ∀ rs : List Nat, (encs rs).length ≤ 4 * (escs rs).length
  | [] => Nat.zero_le _
  | c :: rs => by
    have e1 : escs (c :: rs) = escL c ++ escs rs := by simp [escs]
    have e2 : encs (c :: rs) = encodeRune (c : Int) ++ encs rs := by simp [encs]
    have ih := encs_len rs
    have h1 := (enc_len (c : Int)).2
    have h2 : 1 ≤ (escL c).length := by
      rcases escL_ways c with ⟨_, _, _, e⟩ | ⟨_, e⟩ | ⟨k, _, e⟩ | ⟨_, _, _, e⟩ <;> rw [e] <;> simp
    rw [e1, e2, List.length_append, List.length_append]
    omega
end Go.Proofs.YtenngdkgahngjaaDoor.Si
