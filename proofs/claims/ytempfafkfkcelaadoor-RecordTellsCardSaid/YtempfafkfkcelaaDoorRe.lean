/- What the program's functions on records compute, as plain mathematics. -/
import Derived.Test.YtempfafkfkcelaaDoorAll2
import Derived.Test.YtempfafkfkcelaaDoorAll3
import Derived.Test.YtempfafkfkcelaaDoorAll4
import Derived.Test.YtempfafkfkcelaaDoorAll2
import Derived.Test.YtempfafkfkcelaaDoorBa
namespace Go.Proofs.YtempfafkfkcelaaDoor.Re
open Go.RowKit Go.Proofs.YtempfafkfkcelaaDoorW.PrintWords Go.Proofs.YtempfafkfkcelaaDoor.All Go.Proofs.YtempfafkfkcelaaDoor.Ba Go.Lib

def markI (a : Int) : Bool := decide (a = 32 ∨ a = 88 ∨ a = 42)
theorem marked_f (a : Int) : record_marked.f a = some (markI a) := by
  unfold record_marked.f markI
  by_cases h : a = 32
  · simp [h]
  · rw [if_neg h]
    by_cases h1 : a = 88
    · simp [h1]
    · rw [if_neg h1]
      congr 1
      rw [Bool.eq_iff_iff]
      simp [h, h1]
theorem plain_f (s : ByteArray) : record_plain.f s = some (plainL s.data.toList) := rfl
def okP (a : Int) (s : List UInt8) (n : Int) : Prop := (a = 32 ∨ a = 88 ∨ a = 42) ∧ plainL s = true ∧ s.length ≤ 71 ∧ 0 ≤ n
instance (a : Int) (s : List UInt8) (n : Int) : Decidable (okP a s n) := by unfold okP; infer_instance
def lineV (a : Int) (s : List UInt8) (n : Int) : ByteArray × Bool := if okP a s n then (ba (lineL (UInt8.ofNat a.toNat) s n.toNat), true) else (⟨#[]⟩, false)
theorem line_f (a : Int) (s : ByteArray) (n : Int) (h : I n) : record_Line.f a s n = some (lineV a s.data.toList n) := by
  unfold record_Line.f lineV
  rw [size_data]
  by_cases c : okP a s.data.toList n
  · rw [if_pos c]
    unfold okP at c
    rw [if_pos c, if_pos h.2]
    rfl
  · rw [if_neg c]
    unfold okP at c
    rw [if_neg c]
theorem line_ok {a : Int} {s : List UInt8} {n : Int} (h : okP a s n) : lineV a s n = (ba (lineL (UInt8.ofNat a.toNat) s n.toNat), true) := if_pos h
theorem line_no {a : Int} {s : List UInt8} {n : Int} (h : ¬ okP a s n) : lineV a s n = (⟨#[]⟩, false) := if_neg h
theorem lineL_length (c : UInt8) (d : List UInt8) (n : Nat) (h : d.length ≤ 71) : (lineL c d n).length = 80 := by
  unfold lineL
  simp [num8_length]
  omega
/-- The head, the data and the number of a line. -/
def mid (s : List UInt8) : List UInt8 := (s.drop 1).take 71
def hd (s : List UInt8) : Int := ((s.headD 0).toNat : Int)
theorem hd_ofNat (s : List UInt8) : UInt8.ofNat (hd s).toNat = s.headD 0 := by
  unfold hd
  rw [Int.toNat_natCast, UInt8.ofNat_toNat]
theorem split80 {s : List UInt8} (h : s.length = 80) : s = s.headD 0 :: (mid s ++ s.drop 72) := by
  cases s with
  | nil => cases h
  | cons c t =>
    show c :: t = c :: (mid (c :: t) ++ t.drop 71)
    unfold mid
    rw [List.drop_succ_cons, List.drop_zero, List.take_append_drop]
theorem mid_length {s : List UInt8} (h : s.length = 80) : (mid s).length = 71 := by
  unfold mid
  simp [h]
def readOk (s : List UInt8) (n : Int) : Prop := s.length = 80 ∧ okP (hd s) (mid s) n ∧ s.drop 72 = num8 n.toNat
instance (s : List UInt8) (n : Int) : Decidable (readOk s n) := by unfold readOk; infer_instance
def readV (s : List UInt8) (n : Int) : Int × ByteArray × Bool := if readOk s n then (hd s, ba (mid s), true) else (0, ⟨#[]⟩, false)
theorem lineL_eq {s : List UInt8} (h : s.length = 80) (n : Nat) : lineL (s.headD 0) (mid s) n = s ↔ s.drop 72 = num8 n := by
  have hm := mid_length h
  have e : lineL (s.headD 0) (mid s) n = s.headD 0 :: (mid s ++ num8 n) := by
    unfold lineL
    rw [hm]
    simp
  rw [e]
  constructor
  · intro k
    have k2 := k.trans (split80 h)
    simp only [List.cons.injEq, true_and] at k2
    exact (List.append_cancel_left k2).symm
  · intro k
    rw [← k]
    exact (split80 h).symm
theorem read_ok {s : List UInt8} {n : Int} (h : readOk s n) : readV s n = (hd s, ba (mid s), true) := if_pos h
theorem read_no {s : List UInt8} {n : Int} (h : ¬ readOk s n) : readV s n = (0, ⟨#[]⟩, false) := if_neg h
theorem bt0 {s : ByteArray} (h : s.data.toList.length = 80) : bt s 0 = hd s.data.toList := by
  have e := ba_bt s.data.toList 0 (by omega)
  rw [ba_self] at e
  have e2 : ((0 : Nat) : Int) = 0 := rfl
  rw [e2] at e
  rw [e]
  unfold hd
  rw [List.headD_eq_head?_getD, List.head?_eq_getElem?, List.getElem?_eq_getElem (by omega)]
  rfl
theorem extract_mid (s : ByteArray) : (s.extract 1 72).data.toList = mid s.data.toList := by rw [extract_data]; rfl
theorem read_j (s : ByteArray) (n : Int) (hn : I n) (h : s.data.toList.length = 80) (x : Bool) (hx : x = true → ¬ readOk s.data.toList n) :
    Ev (fun k => record_Read.j0 k s n x) (readV s.data.toList n) := by
  refine Ev.step (fun _ => record_Read.j0.eq_2 ..) ?_
  have hz : (s.size : Int) = 80 := by rw [size_data, h]; rfl
  by_cases hx' : x = true
  · rw [read_no (hx hx')]
    exact Ev.if_pos hx' (Ev.now _)
  · refine Ev.if_neg hx' (Ev.if_pos (by decide) (Ev.if_pos (by omega) (Ev.if_pos (by omega) (Ev.bind0 (line_f _ _ _ hn) ?_))))
    rw [bt0 h, extract_mid]
    by_cases c : okP (hd s.data.toList) (mid s.data.toList) n
    · rw [line_ok c, hd_ofNat]
      refine Ev.if_pos rfl ?_
      have hl := lineL_eq h n.toNat
      by_cases d : s.data.toList.drop 72 = num8 n.toNat
      · rw [read_ok ⟨h, c, d⟩]
        refine Ev.if_pos (by rw [ba_toList, toList_eq]; exact hl.2 d) ?_
        rw [eq_ba (s.extract 1 72), extract_mid]
        exact Ev.now _
      · rw [read_no (fun k => d k.2.2)]
        exact Ev.if_neg (by rw [ba_toList, toList_eq]; exact fun k => d (hl.1 k)) (Ev.now _)
    · rw [line_no c]
      rw [read_no (fun k => c k.2.1)]
      exact Ev.if_neg (by decide) (Ev.now _)
theorem read_j_true (s : ByteArray) (n : Int) (h : ¬ readOk s.data.toList n) : Ev (fun k => record_Read.j0 k s n true) (readV s.data.toList n) := by
  refine Ev.step (fun _ => record_Read.j0.eq_2 ..) ?_
  rw [read_no h]
  exact Ev.if_pos rfl (Ev.now _)
theorem read_ev (s : ByteArray) (n : Int) (hn : I n) : Ev (fun k => record_Read.f k s n) (readV s.data.toList n) := by
  unfold record_Read.f
  have hz : (s.size : Int) = (s.data.toList.length : Int) := by rw [size_data]
  by_cases h : s.data.toList.length = 80
  · refine Ev.if_pos (by omega) (Ev.if_pos (by omega) (Ev.bind0 (marked_f _) ?_))
    rw [bt0 h]
    cases hm : markI (hd s.data.toList) with
    | true =>
      refine Ev.if_pos rfl (read_j s n hn h _ fun hx k => ?_)
      have := of_decide_eq_true hx
      have := k.2.1.2.2.2
      omega
    | false => exact Ev.if_neg (by decide) (read_j_true s n fun k => by have := of_decide_eq_false hm; exact this k.2.1.1)
  · exact Ev.if_neg (by omega) (read_j_true s n fun k => h k.1)

/-! ### Put -/
def next (n : Nat) : Nat := (n % 100000000 + 1) % 100000000
theorem next_eq {n : Int} (h0 : 0 ≤ n) (_h : I n) : Int.tmod (wrap64 ((Int.tmod n 100000000) + 1)) 100000000 = ((next n.toNat : Nat) : Int) := by
  have h1 : Int.tmod n 100000000 = n % 100000000 := Int.tmod_eq_emod_of_nonneg h0
  rw [h1, wrapI (by unfold I; omega), Int.tmod_eq_emod_of_nonneg (by omega)]
  unfold next
  omega
def putL (s : List UInt8) (n : Nat) : List ByteArray := if 71 < s.length then ba (lineL 32 (s.take 71) n) :: putL (s.drop 71) (next n) else [ba (lineL 88 s n)]
termination_by s.length
decreasing_by simp; omega
theorem putL_far {s : List UInt8} {n : Nat} (h : 71 < s.length) : putL s n = ba (lineL 32 (s.take 71) n) :: putL (s.drop 71) (next n) := by rw [putL, if_pos h]
theorem putL_near {s : List UInt8} {n : Nat} (h : ¬ 71 < s.length) : putL s n = [ba (lineL 88 s n)] := by rw [putL, if_neg h]
theorem plainL_take {s : List UInt8} (n : Nat) (h : plainL s = true) : plainL (s.take n) = true := by
  unfold plainL at h ⊢
  rw [List.all_eq_true] at h ⊢
  exact fun x hx => h x (List.mem_of_mem_take hx)
theorem plainL_drop {s : List UInt8} (n : Nat) (h : plainL s = true) : plainL (s.drop n) = true := by
  unfold plainL at h ⊢
  rw [List.all_eq_true] at h ⊢
  exact fun x hx => h x (List.mem_of_mem_drop hx)
theorem plainL_append (a b : List UInt8) : plainL (a ++ b) = (plainL a && plainL b) := by unfold plainL; rw [List.all_append]
theorem next_I (n : Nat) : I ((next n : Nat) : Int) := by unfold I next; omega
theorem put_loop : ∀ (m : Nat) (s : List UInt8), s.length = m → s ≠ [] → plainL s = true → ∀ (n : Int), I n → 0 ≤ n → ∀ (o : List ByteArray), o.length + m < 8796093022208 → 
    Ev (fun k => record_Put.l0 k n o (ba s)) (o ++ putL s n.toNat, true) := by
  intro m
  induction m using Nat.strongRecOn with
  | _ m ih =>
    intro s hm hs hp n hn h0 o ho
    subst hm
    have hpos : 0 < s.length := List.length_pos_iff.2 hs
    refine Ev.step (fun _ => record_Put.l0.eq_2 ..) ?_
    refine Ev.if_neg (by rw [ba_toList]; exact hs) ?_
    rw [ba_size]
    by_cases h : 71 < s.length
    · rw [putL_far h]
      refine Ev.if_neg (by omega) (Ev.if_pos (by decide) (Ev.if_pos (by omega) (Ev.bind0 (line_f _ _ _ hn) ?_)))
      rw [ba_extract, ba_extract, ba_data, next_eq h0 hn]
      refine Ev.if_pos (by omega) ?_
      have e1 : List.take (s.length - 71) (s.drop 71) = s.drop 71 := List.take_of_length_le (by simp)
      have hl := ih (s.drop 71).length (by rw [List.length_drop]; omega) (s.drop 71) rfl (by intro k; have := congrArg List.length k; simp at this; omega) (plainL_drop _ hp) _ (next_I n.toNat) (by omega) (o ++ [ba (lineL 32 (s.take 71) n.toNat)]) (by simp; omega)
      rw [e1, List.drop_zero, line_ok ⟨.inl rfl, plainL_take _ hp, by simp; omega, h0⟩]
      rw [Int.toNat_natCast, List.append_assoc] at hl
      exact hl
    · rw [putL_near h]
      refine Ev.if_pos (by omega) (Ev.if_pos (by omega) (Ev.if_pos (by omega) (Ev.bind0 (line_f _ _ _ hn) ?_)))
      rw [ba_data, next_eq h0 hn]
      refine Ev.if_pos (by omega) ?_
      rw [line_ok ⟨.inr (.inl rfl), hp, by omega, h0⟩]
      refine Ev.step (fun _ => record_Put.l0.eq_2 ..) ?_
      exact Ev.if_pos (ba_toList []) (Ev.now _)
def putV (s : List UInt8) (n : Int) : List ByteArray × Bool := if plainL s = true ∧ 0 ≤ n then (putL (s ++ [36]) n.toNat, true) else ([], false)
theorem put_ev (s : ByteArray) (n : Int) (hn : I n) (hs : s.size ≤ 1000000) : Ev (fun k => record_Put.f k s n) (putV s.data.toList n) := by
  unfold record_Put.f
  refine Ev.bind0 (plain_f _) ?_
  unfold putV
  cases hp : plainL s.data.toList with
  | false =>
    rw [if_neg (fun k => by cases k.1)]
    refine Ev.if_neg (by decide) (Ev.step (fun _ => record_Put.j0.eq_2 ..) ?_)
    exact Ev.if_pos rfl (Ev.now _)
  | true =>
    refine Ev.if_pos rfl (Ev.step (fun _ => record_Put.j0.eq_2 ..) ?_)
    by_cases h : n < 0
    · rw [if_neg (fun k => by omega)]
      exact Ev.if_pos (decide_eq_true h) (Ev.now _)
    · rw [if_pos ⟨rfl, by omega⟩]
      refine Ev.if_neg (by simpa using h) (Ev.if_pos (by omega) ?_)
      have e : s ++ (⟨#[36]⟩ : ByteArray) = ba (s.data.toList ++ [36]) := by
        have := ba_append s.data.toList [36]
        rw [ba_self] at this
        exact this
      rw [e]
      have hz := size_data s
      have := put_loop (s.data.toList ++ [36]).length (s.data.toList ++ [36]) rfl (by simp) (by rw [plainL_append, hp]; rfl) n hn (by omega) [] (by simp; omega)
      exact this

/-! ### Get -/
def joinB (l : List ByteArray) : List UInt8 := (l.map (·.data.toList)).flatten
theorem join_eq (l : List ByteArray) : Lib.join (l.map (·.data.toList)) [] = joinB l := by
  unfold Lib.join joinB
  induction l.map (·.data.toList) with
  | nil => rfl
  | cons x t ih => 
    cases t with
    | nil => simp [List.intercalate]
    | cons y t => 
      rw [List.flatten_cons, ← ih]
      simp [List.intercalate, List.intersperse]
/-- The end '$' off what is left of the spaces. -/
def getV (s : List UInt8) : ByteArray × Bool := if (trimRightB s 32).getLast? = some 36 then (ba (trimRightB s 32).dropLast, true) else (⟨#[]⟩, false)
theorem cutSuffix_f (s : List UInt8) (h : s.length ≤ 9223372036854775806) : strings_CutSuffix.f (ba s) ⟨#[36]⟩ = some (if s.getLast? = some 36 then (ba s.dropLast, true) else (ba s, false)) := by
  unfold strings_CutSuffix.f stringslite_CutSuffix.f stringslite_HasSuffix.f
  rw [ba_size, show ((⟨#[36]⟩ : ByteArray).size : Int) = 1 from rfl]
  rcases List.eq_nil_or_concat s with rfl | ⟨t, x, rfl⟩
  · rfl
  · have hl : (t.concat x).length = t.length + 1 := by simp
    rw [hl] at h ⊢
    rw [wrapI (by unfold I; omega), show (((t.length + 1 : Nat) : Int) - 1) = (t.length : Int) by omega, if_pos (by omega), if_pos (by omega), if_pos (by omega)]
    rw [Int.toNat_natCast, ba_extract, ba_extract, ba_toList]
    have e1 : (List.drop t.length (t.concat x)).take (t.length + 1 - t.length) = [x] := by simp
    have e2 : (List.drop 0 (t.concat x)).take (t.length - 0) = t := by simp
    have e3 : (t.concat x).dropLast = t := by simp
    have e4 : (t.concat x).getLast? = some x := by simp
    have e5 : (⟨#[36]⟩ : ByteArray).toList = [36] := by rw [toList_eq]
    rw [e1, e2, e3, e4, e5, if_pos (by omega), if_pos (by omega)]
    by_cases hx : x = 36
    · subst hx; rfl
    · have : ([x] == ([36] : List UInt8)) = false := by simp [hx]
      simp [this, hx]
theorem trim_len (s : List UInt8) (c : UInt8) : (trimRightB s c).length ≤ s.length := by
  unfold trimRightB
  rw [List.length_reverse]
  exact Nat.le_trans (List.dropWhile_sublist _).length_le (by simp)
theorem get_f (l : List ByteArray) (h : (joinB l).length ≤ 140737488355328) (hl : l.length ≤ 140737488355328) : record_Get.f l = some (getV (joinB l)) := by
  unfold record_Get.f strings_Join.f
  rw [show (⟨#[]⟩ : ByteArray).data.toList = [] from rfl, join_eq, if_pos ⟨h, hl⟩, Option.bind_some]
  unfold strings_TrimRight.f
  rw [show (⟨#[32]⟩ : ByteArray).data.toList = [32] from rfl]
  dsimp only
  rw [show (⟨(joinB l).toArray⟩ : ByteArray) = ba (joinB l) from rfl, ba_size, if_pos ⟨by decide, by omega⟩, Option.bind_some, lit_ba, cutSuffix_f _ (by have := trim_len (joinB l) 32; omega), Option.bind_some]
  unfold getV
  by_cases c : (trimRightB (joinB l) 32).getLast? = some 36
  · rw [if_pos c, if_pos c]; rfl
  · rw [if_neg c, if_neg c]; rfl
end Go.Proofs.YtempfafkfkcelaaDoor.Re
