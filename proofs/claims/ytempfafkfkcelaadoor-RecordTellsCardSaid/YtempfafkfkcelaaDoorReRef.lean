/- The document's own answers on records: the same. -/
import Derived.Test.YtempfafkfkcelaaDoorAll8
import Derived.Test.YtempfafkfkcelaaDoorAll9
import Derived.Test.YtempfafkfkcelaaDoorAll10
import Derived.Test.YtempfafkfkcelaaDoorAll4
import Derived.Test.YtempfafkfkcelaaDoorAll6
import Derived.Test.YtempfafkfkcelaaDoorAll5
import Derived.Lib.LazyBuf
import Derived.Test.YtempfafkfkcelaaDoorRe
namespace Go.Proofs.YtempfafkfkcelaaDoor.Re
open Go.RowKit Go.Proofs.YtempfafkfkcelaaDoorW.PrintWords Go.Proofs.YtempfafkfkcelaaDoor.All Go.Proofs.YtempfafkfkcelaaDoor.Ba Go.Lib

theorem marks_f (a : Int) : deckleref20_marks.f a = some (markI a) := marked_f a
theorem bt_data (s : ByteArray) (i : Nat) (h : i < s.data.toList.length) : bt s (i : Int) = (s.data.toList[i].toNat : Int) := by
  have e := ba_bt s.data.toList i h
  rw [ba_self] at e
  exact e
theorem rplain_loop (s : ByteArray) (hs : s.size ≤ 140737488355328) : ∀ (m i : Nat), i + m = s.data.toList.length → Ev (fun k => deckleref20_plain.l0 k s (i : Int)) (plainL (s.data.toList.drop i))
  | 0, i, h => by
    refine Ev.step (fun _ => deckleref20_plain.l0.eq_2 ..) ?_
    rw [size_data, List.drop_eq_nil_of_le (by omega)]
    exact Ev.if_neg (by omega) (Ev.now _)
  | m + 1, i, h => by
    have hz := size_data s
    refine Ev.step (fun _ => deckleref20_plain.l0.eq_2 ..) (Ev.if_pos (by omega) (Ev.if_pos (by omega) ?_))
    have hi : i < s.data.toList.length := by omega
    have ih := rplain_loop s hs m (i + 1) (by omega)
    rw [bt_data s i hi, List.drop_eq_getElem_cons hi]
    have e : plainL (s.data.toList[i] :: s.data.toList.drop (i + 1)) = (plainC s.data.toList[i] && plainL (s.data.toList.drop (i + 1))) := rfl
    rw [e]
    unfold plainC
    by_cases h1 : (s.data.toList[i].toNat : Int) < 32
    · rw [decide_eq_false (by omega : ¬ 32 ≤ s.data.toList[i].toNat)]
      exact Ev.if_pos h1 (Ev.now _)
    · refine Ev.if_neg h1 ?_
      rw [decide_eq_true (by omega : 32 ≤ s.data.toList[i].toNat)]
      by_cases h2 : (s.data.toList[i].toNat : Int) > 126
      · rw [decide_eq_false (by omega : ¬ s.data.toList[i].toNat ≤ 126)]
        exact Ev.if_pos h2 (Ev.now _)
      · rw [decide_eq_true (by omega : s.data.toList[i].toNat ≤ 126)]
        refine Ev.if_neg h2 ?_
        rw [wrapI (by unfold I; omega)]
        exact ih
theorem rplain_ev (s : ByteArray) (hs : s.size ≤ 140737488355328) : Ev (fun k => deckleref20_plain.f k s) (plainL s.data.toList) := rplain_loop s hs s.data.toList.length 0 (by omega)
/-- Digits from behind. -/
theorem rnum_step (n : Nat) : (48 + Int.tmod (n : Int) 10) % 256 = ((UInt8.ofNat (48 + n % 10)).toNat : Int) := by
  rw [Int.tmod_eq_emod_of_nonneg (by omega), UInt8.toNat_ofNat']
  omega
def digs : Nat → Nat → List UInt8
  | 0, _ => []
  | i + 1, n => digs i (n / 10) ++ [UInt8.ofNat (48 + n % 10)]
theorem rnumber_loop : ∀ (m : Nat) (i : Nat), i + m = 8 → ∀ (n : Nat) (o : List UInt8), (n : Int) ≤ 9223372036854775807 → o.length + m ≤ 100 → Ev (fun k => deckleref20_number.l0 k (n : Int) (ba o) (i : Int)) (ba (digs m n ++ o))
  | 0, i, h, n, o, hn, ho => by
    refine Ev.step (fun _ => deckleref20_number.l0.eq_2 ..) ?_
    exact Ev.if_neg (by omega) (Ev.now _)
  | m + 1, i, h, n, o, hn, ho => by
    refine Ev.step (fun _ => deckleref20_number.l0.eq_2 ..) (Ev.if_pos (by omega) (Ev.bind0 rfl ?_))
    have ih := rnumber_loop m (i + 1) (by omega) (n / 10) (UInt8.ofNat (48 + n % 10) :: o) (by omega) (by simp; omega)
    rw [wrapI (n := 48 + Int.tmod (n : Int) 10) (by rw [Int.tmod_eq_emod_of_nonneg (by omega)]; unfold I; omega), rnum_step]
    have e1 : strOfNums [((UInt8.ofNat (48 + n % 10)).toNat : Int)] = ba [UInt8.ofNat (48 + n % 10)] := Lz.strOfNums_map [UInt8.ofNat (48 + n % 10)]
    rw [e1, ba_size, ba_size]
    refine Ev.if_pos (by simp; omega) ?_
    rw [ba_append, Int.tdiv_eq_ediv_of_nonneg (by omega), wrapI (n := (n : Int) / 10) (by unfold I; omega), wrapI (by unfold I; omega)]
    have e2 : digs (m + 1) n ++ o = digs m (n / 10) ++ (UInt8.ofNat (48 + n % 10) :: o) := by simp [digs]
    rw [e2]
    exact ih
theorem digs_zero : ∀ i, digs i 0 = List.replicate i 48
  | 0 => rfl
  | i + 1 => by
    rw [digs, Nat.zero_div, digs_zero i, List.replicate_succ']
    rfl
theorem digs_decs : ∀ (i n : Nat), n < 10 ^ i → 0 < i → digs i n = List.replicate (i - (decDigits n).length) 48 ++ decDigits n
  | 0, n, _, h => absurd h (by decide)
  | i + 1, n, h, _ => by
    rw [digs]
    by_cases h1 : n < 10
    · rw [show n / 10 = 0 by omega, digs_zero, decDigits, dif_pos h1, Nat.mod_eq_of_lt h1]
      simp
    · rw [decDigits, dif_neg h1, Nat.pow_succ] at *
      rw [digs_decs i (n / 10) (by omega) (by
        cases i with
        | zero => simp at h; omega
        | succ i => omega), List.append_assoc]
      congr 2
      simp
theorem digs_mod : ∀ (i n : Nat), digs i (n % 10 ^ i) = digs i n
  | 0, n => rfl
  | i + 1, n => by
    rw [digs, digs, ← digs_mod i (n / 10)]
    have e1 : n % 10 ^ (i + 1) / 10 = n / 10 % 10 ^ i := by
      rw [Nat.pow_succ, Nat.mul_comm, Nat.mod_mul_right_div_self]
    have e2 : n % 10 ^ (i + 1) % 10 = n % 10 := Nat.mod_mod_of_dvd _ ⟨10 ^ i, by rw [Nat.pow_succ, Nat.mul_comm]⟩
    rw [e1, e2]
theorem num8_digs (n : Nat) : num8 n = digs 8 n := by
  rw [← digs_mod 8 n, digs_decs 8 _ (Nat.mod_lt _ (by decide)) (by decide)]
  unfold num8
  rw [All.repeatL_one]
theorem rnumber_ev (n : Int) (h0 : 0 ≤ n) (h : I n) : Ev (fun k => deckleref20_number.f k n) (ba (num8 n.toNat)) := by
  obtain ⟨m, rfl⟩ := Int.eq_ofNat_of_zero_le h0
  have := rnumber_loop 8 0 (by omega) m [] h.2 (by simp)
  rw [List.append_nil, ← num8_digs] at this
  exact this
/-! ### Line -/
theorem rline_loop (n : Int) (h0 : 0 ≤ n) (hn : I n) : ∀ (m : Nat) (s : List UInt8), s.length + m = 72 → Ev (fun k => deckleref20_Line.l0 k n (ba s)) (ba (s ++ List.replicate m 32 ++ num8 n.toNat), true)
  | 0, s, h => by
    refine Ev.step (fun _ => deckleref20_Line.l0.eq_2 ..) ?_
    rw [ba_size]
    refine Ev.if_neg (by omega) (Ev.bind (rnumber_ev n h0 hn) ?_)
    rw [ba_size, num8_length]
    refine Ev.if_pos (by omega) ?_
    rw [ba_append, List.replicate_zero, List.append_nil]
    exact Ev.now _
  | m + 1, s, h => by
    refine Ev.step (fun _ => deckleref20_Line.l0.eq_2 ..) ?_
    rw [ba_size]
    refine Ev.if_pos (by omega) (Ev.if_pos (by omega) ?_)
    have ih := rline_loop n h0 hn m (s ++ [32]) (by simp; omega)
    rw [show ba s ++ (⟨#[32]⟩ : ByteArray) = ba (s ++ [32]) from ba_append s [32]]
    rw [List.replicate_succ, show s ++ 32 :: List.replicate m 32 = s ++ [32] ++ List.replicate m 32 by simp]
    exact ih
theorem strOf_mark {a : Int} (h : a = 32 ∨ a = 88 ∨ a = 42) : strOfNums [a] = ba [UInt8.ofNat a.toNat] := by
  rcases h with rfl | rfl | rfl <;> rfl
theorem rline_j (a : Int) (s : ByteArray) (n : Int) (hn : I n) (x : Bool) (hx : x = true ↔ ¬ okP a s.data.toList n) : Ev (fun k => deckleref20_Line.j0 k a s n x) (lineV a s.data.toList n) := by
  refine Ev.step (fun _ => deckleref20_Line.j0.eq_2 ..) ?_
  have hz := size_data s
  by_cases c : okP a s.data.toList n
  · rw [line_ok c]
    refine Ev.if_neg (fun k => hx.1 k c) (Ev.bind0 rfl ?_)
    have hl := c.2.2.1
    rw [strOf_mark c.1, ba_size]
    refine Ev.if_pos (by simp; omega) ?_
    have := rline_loop n c.2.2.2 hn (71 - s.data.toList.length) (UInt8.ofNat a.toNat :: s.data.toList) (by simp; omega)
    rw [show ba [UInt8.ofNat a.toNat] ++ s = ba (UInt8.ofNat a.toNat :: s.data.toList) by
      have := ba_append [UInt8.ofNat a.toNat] s.data.toList
      rw [ba_self] at this
      exact this]
    exact this
  · rw [line_no c]
    exact Ev.if_pos (hx.2 c) (Ev.now _)
theorem rline_ev (a : Int) (s : ByteArray) (n : Int) (hn : I n) (hs : s.size ≤ 140737488355328) : Ev (fun k => deckleref20_Line.f k a s n) (lineV a s.data.toList n) := by
  unfold deckleref20_Line.f
  have hz := size_data s
  refine Ev.bind0 (marks_f a) ?_
  cases hm : markI a with
  | false => exact Ev.if_neg (by decide) (rline_j a s n hn true ⟨fun _ k => of_decide_eq_false hm k.1, fun _ => rfl⟩)
  | true =>
    refine Ev.if_pos rfl (Ev.bind (rplain_ev s hs) ?_)
    cases hp : plainL s.data.toList with
    | false => exact Ev.if_neg (by decide) (rline_j a s n hn true ⟨fun _ k => (by have h2 := k.2.1; rw [hp] at h2; exact absurd h2 (by decide)), fun _ => rfl⟩)
    | true =>
      refine Ev.if_pos rfl ?_
      by_cases h1 : (s.size : Int) > 71
      · exact Ev.if_pos h1 (rline_j a s n hn true ⟨fun _ k => by have := k.2.2.1; omega, fun _ => rfl⟩)
      · refine Ev.if_neg h1 (rline_j a s n hn _ ?_)
        rw [decide_eq_true_eq]
        unfold okP
        constructor
        · intro k; omega
        · intro k
          rcases Int.lt_or_le n 0 with q | q
          · exact q
          · exact absurd ⟨of_decide_eq_true hm, hp, by omega, q⟩ k
/-! ### Read -/
theorem plainC_digit (n : Nat) : plainC (UInt8.ofNat (48 + n % 10)) = true := by
  unfold plainC
  rw [UInt8.toNat_ofNat']
  simp
  omega
theorem plainL_digs : ∀ (i n : Nat), plainL (digs i n) = true
  | 0, _ => rfl
  | i + 1, n => by
    rw [digs, plainL_append, plainL_digs i]
    show (true && (plainC (UInt8.ofNat (48 + n % 10)) && true)) = true
    rw [plainC_digit]
    rfl
theorem plain_num8 (n : Nat) : plainL (num8 n) = true := by rw [num8_digs]; exact plainL_digs 8 n
theorem plain_mark {s : List UInt8} (h : hd s = 32 ∨ hd s = 88 ∨ hd s = 42) : plainC (s.headD 0) = true := by
  unfold hd at h
  unfold plainC
  generalize s.headD 0 = x at h ⊢
  simp
  omega
theorem rread_j (s : ByteArray) (n : Int) (x : Bool) (hx : x = true ↔ ¬ readOk s.data.toList n) : Ev (fun k => deckleref20_Read.j0 k s x) (readV s.data.toList n) := by
  refine Ev.step (fun _ => deckleref20_Read.j0.eq_2 ..) ?_
  have hz := size_data s
  unfold readV
  by_cases c : readOk s.data.toList n
  · rw [if_pos c]
    have := c.1
    refine Ev.if_neg (fun k => hx.1 k c) (Ev.if_pos (by omega) (Ev.if_pos (by decide) (Ev.if_pos (by omega) ?_)))
    rw [bt0 c.1, eq_ba (s.extract 1 72), extract_mid]
    exact Ev.now _
  · rw [if_neg c]
    exact Ev.if_pos (hx.2 c) (Ev.now _)
theorem rread_ev (s : ByteArray) (n : Int) (hn : I n) (hs : s.size ≤ 140737488355328) : Ev (fun k => deckleref20_Read.f k s n) (readV s.data.toList n) := by
  unfold deckleref20_Read.f
  have hz := size_data s
  by_cases h : s.data.toList.length = 80
  · refine Ev.if_pos (by omega) (Ev.bind (rplain_ev s hs) ?_)
    have hpl : plainL s.data.toList = (plainC (s.data.toList.headD 0) && (plainL (mid s.data.toList) && plainL (s.data.toList.drop 72))) := by
      have := split80 h
      conv => lhs; rw [this]
      show (plainC _ && plainL (mid s.data.toList ++ _)) = _
      rw [plainL_append]
    cases hp : plainL s.data.toList with
    | false =>
      refine Ev.if_neg (by decide) (rread_j s n true ⟨fun _ k => ?_, fun _ => rfl⟩)
      rw [hp, plain_mark k.2.1.1, k.2.1.2.1, k.2.2, plain_num8] at hpl
      cases hpl
    | true =>
      refine Ev.if_pos rfl (Ev.if_pos (by omega) (Ev.bind0 (marks_f _) ?_))
      rw [bt0 h]
      rw [hp] at hpl
      have hpl := hpl.symm
      simp only [Bool.and_eq_true] at hpl
      cases hm : markI (hd s.data.toList) with
      | false => exact Ev.if_neg (by decide) (rread_j s n true ⟨fun _ k => of_decide_eq_false hm k.2.1.1, fun _ => rfl⟩)
      | true =>
        refine Ev.if_pos rfl ?_
        by_cases h1 : n < 0
        · exact Ev.if_pos h1 (rread_j s n true ⟨fun _ k => by have := k.2.1.2.2.2; omega, fun _ => rfl⟩)
        · refine Ev.if_neg h1 (Ev.if_pos (by omega) (Ev.bind (rnumber_ev n (by omega) hn) (rread_j s n _ ?_)))
          have e : (s.extract 72 s.size).toList = s.data.toList.drop 72 := by
            rw [toList_eq, extract_data, List.take_of_length_le (by simp)]
          rw [e, ba_toList, bne_iff_ne]
          unfold readOk okP
          constructor
          · exact fun k q => k q.2.2
          · exact fun k q => k ⟨h, ⟨of_decide_eq_true hm, hpl.2.1, by rw [mid_length h]; exact Nat.le_refl _, by omega⟩, q⟩
  · exact Ev.if_neg (by omega) (rread_j s n true ⟨fun _ k => h k.1, fun _ => rfl⟩)
/-! ### Put -/
theorem rput_loop : ∀ (m : Nat) (s : List UInt8), s.length = m → plainL s = true → ∀ (n : Int), I n → 0 ≤ n → ∀ (o : List ByteArray), o.length + m < 8796093022208 → 
    Ev (fun k => deckleref20_Put.l0 k n (ba s) o) (o ++ putL s n.toNat, true) := by
  intro m
  induction m using Nat.strongRecOn with
  | _ m ih =>
    intro s hm hp n hn h0 o ho
    subst hm
    refine Ev.step (fun _ => deckleref20_Put.l0.eq_2 ..) ?_
    rw [ba_size]
    by_cases h : 71 < s.length
    · rw [putL_far h, ba_extract, ba_extract, List.drop_zero, Nat.sub_zero]
      refine Ev.if_pos (by omega) (Ev.if_pos (by decide) (Ev.if_pos (by omega) (Ev.bind (rline_ev _ _ _ hn (by rw [ba_size]; simp; omega)) ?_)))
      rw [ba_data, next_eq h0 hn]
      refine Ev.if_pos (by omega) ?_
      have e1 : List.take (s.length - 71) (s.drop 71) = s.drop 71 := List.take_of_length_le (by simp)
      have hl := ih (s.drop 71).length (by rw [List.length_drop]; omega) (s.drop 71) rfl (plainL_drop _ hp) _ (next_I n.toNat) (by omega) (o ++ [ba (lineL 32 (s.take 71) n.toNat)]) (by simp; omega)
      rw [e1, line_ok ⟨.inl rfl, plainL_take _ hp, by simp; omega, h0⟩]
      rw [Int.toNat_natCast, List.append_assoc] at hl
      exact hl
    · rw [putL_near h]
      refine Ev.if_neg (by omega) (Ev.bind (rline_ev _ _ _ hn (by rw [ba_size]; omega)) ?_)
      refine Ev.if_pos (by omega) ?_
      rw [ba_data, line_ok ⟨.inr (.inl rfl), hp, by omega, h0⟩]
      exact Ev.now _
theorem rput_ev (s : ByteArray) (n : Int) (hn : I n) (hs : s.size ≤ 1000000) : Ev (fun k => deckleref20_Put.f k s n) (putV s.data.toList n) := by
  unfold deckleref20_Put.f
  refine Ev.bind (rplain_ev s (by omega)) ?_
  unfold putV
  cases hp : plainL s.data.toList with
  | false =>
    rw [if_neg (fun k => by cases k.1)]
    refine Ev.if_neg (by decide) (Ev.step (fun _ => deckleref20_Put.j0.eq_2 ..) ?_)
    exact Ev.if_pos rfl (Ev.now _)
  | true =>
    refine Ev.if_pos rfl (Ev.step (fun _ => deckleref20_Put.j0.eq_2 ..) ?_)
    by_cases h : n < 0
    · rw [if_neg (fun k => by omega)]
      exact Ev.if_pos (decide_eq_true h) (Ev.now _)
    · rw [if_pos ⟨rfl, by omega⟩]
      refine Ev.if_neg (by simpa using h) (Ev.if_pos (by omega) ?_)
      have e : s ++ (⟨#[36]⟩ : ByteArray) = ba (s.data.toList ++ [36]) := by
        have := ba_append s.data.toList [36]
        rw [ba_self] at this
        exact this
      rw [e]
      have hz := size_data s
      exact rput_loop (s.data.toList ++ [36]).length (s.data.toList ++ [36]) rfl (by rw [plainL_append, hp]; rfl) n hn (by omega) [] (by simp; omega)
/-! ### Get -/
theorem trim_snoc (t : List UInt8) (x : UInt8) : trimRightB (t ++ [x]) 32 = if x = 32 then trimRightB t 32 else t ++ [x] := by
  unfold trimRightB
  rw [List.reverse_append, List.reverse_singleton, List.singleton_append, List.dropWhile_cons]
  by_cases h : x = 32
  · simp [h]
  · simp [h]
theorem bt_last (t : List UInt8) (x : UInt8) : bt (ba (t ++ [x])) (t.length : Int) = (x.toNat : Int) := by
  rw [ba_bt _ _ (by simp)]
  simp
theorem rget_l1 : ∀ (m : Nat) (s : List UInt8), s.length = m → s.length ≤ 140737488355328 → Ev (fun k => deckleref20_Get.l1 k (ba s)) (getV s) := by
  intro m
  induction m with
  | zero =>
    intro s hm hs
    have : s = [] := List.length_eq_zero_iff.1 hm
    subst this
    refine Ev.step (fun _ => deckleref20_Get.l1.eq_2 ..) (Ev.if_pos (ba_toList []) (Ev.now _))
  | succ m ih =>
    intro s hm hs
    rcases List.eq_nil_or_concat s with rfl | ⟨t, x, rfl⟩
    · cases hm
    rw [List.concat_eq_append] at hm hs ⊢
    have hl : (t ++ [x]).length = t.length + 1 := by simp
    have hne : ¬ (ba (t ++ [x])).toList = ([] : List UInt8) := by rw [ba_toList]; simp
    refine Ev.step (fun _ => deckleref20_Get.l1.eq_2 ..) (Ev.if_neg hne ?_)
    have hw : wrap64 (((ba (t ++ [x])).size : Int) - 1) = (t.length : Int) := by rw [ba_size, hl]; rw [wrapI (by unfold I; omega)]; omega
    have ex : (ba (t ++ [x])).extract 0 t.length = ba t := by rw [ba_extract]; simp
    rw [hw, ba_size, hl, bt_last]
    refine Ev.if_pos (by omega) (Ev.if_pos (by omega) ?_)
    by_cases h : x = 32
    · subst h
      refine Ev.if_pos rfl (Ev.if_pos (by omega) ?_)
      rw [Int.toNat_natCast, ex]
      have : getV (t ++ [32]) = getV t := by unfold getV; rw [trim_snoc, if_pos rfl]
      rw [this]
      exact ih t (by omega) (by omega)
    · refine Ev.if_neg (fun k => h (UInt8.toNat.inj (by have : x.toNat = 32 := by omega
                                                        exact this))) ?_
      have eg : getV (t ++ [x]) = if x = 36 then (ba t, true) else (⟨#[]⟩, false) := by
        unfold getV
        rw [trim_snoc, if_neg h]
        by_cases h2 : x = 36
        · rw [if_pos h2, if_pos (by simp [h2])]
          simp
        · rw [if_neg h2, if_neg (by simpa using h2)]
      rw [eg]
      by_cases h2 : x = 36
      · rw [if_pos h2]
        subst h2
        refine Ev.if_pos rfl (Ev.if_pos (by omega) ?_)
        rw [Int.toNat_natCast, ex]
        exact Ev.now _
      · rw [if_neg h2]
        exact Ev.if_neg (fun k => h2 (UInt8.toNat.inj (by have : x.toNat = 36 := by omega
                                                          exact this))) (Ev.now _)
theorem rdOf_at (l : List ByteArray) (i : Nat) (h : i < l.length) : rdOf ByteArray.empty l (i : Int) = l[i] := by
  unfold rdOf
  simp [h]
theorem joinB_take (l : List ByteArray) (i : Nat) (hi : i < l.length) : joinB (l.take (i + 1)) = joinB (l.take i) ++ l[i].data.toList := by
  unfold joinB
  rw [List.take_add_one, List.getElem?_eq_getElem hi, List.map_append, List.flatten_append]
  simp
theorem rget_l0 (l : List ByteArray) (hl : l.length ≤ 140737488355328) (hs : (joinB l).length ≤ 140737488355328) : ∀ (m i : Nat), i + m = l.length → Ev (fun k => deckleref20_Get.l0 k l (ba (joinB (l.take i))) (i : Int)) (getV (joinB l))
  | 0, i, h => by
    refine Ev.step (fun _ => deckleref20_Get.l0.eq_2 ..) (Ev.if_neg (by omega) ?_)
    rw [List.take_of_length_le (by omega)]
    exact rget_l1 _ _ rfl hs
  | m + 1, i, h => by
    have hi : i < l.length := by omega
    have ih := rget_l0 l hl hs m (i + 1) (by omega)
    have e : joinB (l.take (i + 1)) = joinB (l.take i) ++ l[i].data.toList := by
      exact joinB_take l i hi
    have hle : (joinB (l.take i)).length + l[i].data.toList.length ≤ (joinB l).length := by
      rw [← List.length_append, ← e]
      have : joinB l = joinB (l.take (i + 1)) ++ joinB (l.drop (i + 1)) := by
        unfold joinB
        rw [← List.flatten_append, ← List.map_append, List.take_append_drop]
      rw [this, List.length_append]
      omega
    refine Ev.step (fun _ => deckleref20_Get.l0.eq_2 ..) (Ev.if_pos (by omega) (Ev.if_pos (by omega) ?_))
    rw [rdOf_at l i hi, ba_size, size_data]
    refine Ev.if_pos (by omega) ?_
    rw [e] at ih
    have e2 : ba (joinB (l.take i)) ++ l[i] = ba (joinB (l.take i) ++ l[i].data.toList) := by rw [← ba_append, ba_self]
    rw [e2, wrapI (by unfold I; omega)]
    exact ih
theorem rget_ev (l : List ByteArray) (hl : l.length ≤ 140737488355328) (hs : (joinB l).length ≤ 140737488355328) : Ev (fun k => deckleref20_Get.f k l) (getV (joinB l)) := rget_l0 l hl hs l.length 0 (by omega)
/-! ### Same, Few, spaces -/
theorem same_loop (l : List ByteArray) (hl : l.length ≤ 140737488355328) : ∀ (m i : Nat), i + m = l.length → Ev (fun k => deckleref16_Same.l0 k l l (i : Int)) true
  | 0, i, h => Ev.step (fun _ => deckleref16_Same.l0.eq_2 ..) (Ev.if_neg (by omega) (Ev.now _))
  | m + 1, i, h => by
    have ih := same_loop l hl m (i + 1) (by omega)
    refine Ev.step (fun _ => deckleref16_Same.l0.eq_2 ..) (Ev.if_pos (by omega) (Ev.if_pos (by omega) (Ev.if_pos (by omega) (Ev.if_pos rfl ?_))))
    rw [wrapI (by unfold I; omega)]
    exact ih
theorem same_ev (l : List ByteArray) (hl : l.length ≤ 140737488355328) : Ev (fun k => deckleref16_Same.f k l l) true := by
  unfold deckleref16_Same.f
  exact Ev.if_pos rfl (same_loop l hl l.length 0 (by omega))
theorem spaces_loop (n : Int) (h : n ≤ 1000000) : ∀ (m i : Nat), (i : Int) + m = n → Ev (fun k => decklelaw20_spaces.l0 k n (ba (List.replicate i 32)) (i : Int)) (ba (List.replicate n.toNat 32))
  | 0, i, h1 => by
    refine Ev.step (fun _ => decklelaw20_spaces.l0.eq_2 ..) (Ev.if_neg (by omega) ?_)
    rw [show n.toNat = i by omega]
    exact Ev.now _
  | m + 1, i, h1 => by
    have ih := spaces_loop n h m (i + 1) (by omega)
    refine Ev.step (fun _ => decklelaw20_spaces.l0.eq_2 ..) (Ev.if_pos (by omega) ?_)
    rw [ba_size, List.length_replicate]
    refine Ev.if_pos (by omega) ?_
    rw [show ba (List.replicate i 32) ++ (⟨#[32]⟩ : ByteArray) = ba (List.replicate (i + 1) 32) by rw [List.replicate_succ']; exact ba_append _ [32], wrapI (by unfold I; omega)]
    exact ih
theorem spaces_ev (n : Int) (h0 : 0 ≤ n) (h : n ≤ 1000000) : Ev (fun k => decklelaw20_spaces.f k n) (ba (List.replicate n.toNat 32)) := spaces_loop n h n.toNat 0 (by omega)
/-- What Few tells where it tells true: few texts, short ones. -/
def fewP (l : List ByteArray) : Prop := l.length ≤ 50 ∧ (joinB l).length ≤ 2000 ∧ ∀ x ∈ l, x.size ≤ 200
theorem few_end (l : List ByteArray) (c i : Int) (_hn : ¬ (i < (l.length : Int) ∧ i < 100)) : ∃ r, Ev (fun k => decklelaw16_Few.j1 k l c i false) r ∧ (r = true → (l.length : Int) ≤ 50 ∧ c ≤ 2000) := by
  by_cases h : (l.length : Int) ≤ 50
  · exact ⟨_, Ev.step (fun _ => decklelaw16_Few.j1.eq_2 ..) (Ev.if_neg (by decide) (Ev.if_pos h (Ev.now _))), fun k => ⟨h, of_decide_eq_true k⟩⟩
  · exact ⟨_, Ev.step (fun _ => decklelaw16_Few.j1.eq_2 ..) (Ev.if_neg (by decide) (Ev.if_neg h (Ev.now _))), fun k => by cases k⟩
theorem few_loop (l : List ByteArray) (hl : l.length ≤ 140737488355328) : ∀ (m i : Nat), i + m = min l.length 100 → (∀ x ∈ l.take i, x.size ≤ 200) → ∃ r, Ev (fun k => decklelaw16_Few.l0 k l ((joinB (l.take i)).length : Int) (i : Int)) r ∧ (r = true → fewP l)
  | 0, i, h, ha => by
    obtain ⟨r, h1, h2⟩ := few_end l ((joinB (l.take i)).length : Int) i (by omega)
    have hf : r = true → fewP l := fun k => by
      have := h2 k
      rw [List.take_of_length_le (by omega)] at this ha
      exact ⟨by omega, by omega, ha⟩
    refine ⟨r, Ev.step (fun _ => decklelaw16_Few.l0.eq_2 ..) ?_, hf⟩
    by_cases c : (i : Int) < (l.length : Int)
    · refine Ev.if_pos c ?_
      rw [decide_eq_false (by omega)]
      exact h1
    · exact Ev.if_neg c h1
  | m + 1, i, h, ha => by
    have hi : i < l.length := by omega
    by_cases hx : (l[i].size : Int) > 200
    · refine ⟨false, Ev.step (fun _ => decklelaw16_Few.l0.eq_2 ..) (Ev.if_pos (by omega) ?_), fun k => by cases k⟩
      rw [decide_eq_true (by omega)]
      refine Ev.step (fun _ => decklelaw16_Few.j1.eq_2 ..) (Ev.if_pos rfl (Ev.if_pos (by omega) (Ev.if_pos (by omega) (Ev.if_pos (by rw [rdOf_at l i hi]; exact hx) (Ev.now _)))))
    · have ha' : ∀ x ∈ l.take (i + 1), x.size ≤ 200 := by
        intro x hx'
        rw [List.take_add_one, List.getElem?_eq_getElem hi] at hx'
        rcases List.mem_append.1 hx' with k | k
        · exact ha x k
        · simp at k
          subst k
          omega
      obtain ⟨r, h1, h2⟩ := few_loop l hl m (i + 1) (by omega) ha'
      have hb : (joinB (l.take i)).length ≤ 200 * i := by
        have : ∀ (q : List ByteArray), (∀ x ∈ q, x.size ≤ 200) → (joinB q).length ≤ 200 * q.length := by
          intro q
          induction q with
          | nil => intro _; simp [joinB]
          | cons y t ih =>
            intro hq
            have := ih fun x hx => hq x (List.mem_cons_of_mem _ hx)
            have h3 := hq y (List.mem_cons_self ..)
            rw [size_data] at h3
            unfold joinB at this ⊢
            rw [List.map_cons, List.flatten_cons, List.length_append, List.length_cons]
            omega
        have h3 := this _ ha
        rw [List.length_take] at h3
        omega
      refine ⟨r, Ev.step (fun _ => decklelaw16_Few.l0.eq_2 ..) (Ev.if_pos (by omega) ?_), h2⟩
      rw [decide_eq_true (by omega)]
      refine Ev.step (fun _ => decklelaw16_Few.j1.eq_2 ..) (Ev.if_pos rfl (Ev.if_pos (by omega) (Ev.if_pos (by omega) (Ev.if_neg (by rw [rdOf_at l i hi]; exact hx) ?_))))
      rw [rdOf_at l i hi, wrapI (by unfold I; omega), wrapI (by unfold I; omega)]
      rw [joinB_take l i hi, List.length_append, ← size_data, Int.natCast_add] at h1
      exact h1
theorem few_ev (l : List ByteArray) (hl : l.length ≤ 140737488355328) : ∃ r, Ev (fun k => decklelaw16_Few.f k l) r ∧ (r = true → fewP l) := few_loop l hl (min l.length 100) 0 (by omega) (fun x hx => by cases hx)
end Go.Proofs.YtempfafkfkcelaaDoor.Re
