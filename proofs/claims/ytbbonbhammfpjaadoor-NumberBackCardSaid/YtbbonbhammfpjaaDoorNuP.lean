/- What the program's functions on rows of numbers compute, as plain mathematics. -/
import Derived.Test.YtbbonbhammfpjaaDoorAll5
import Derived.Test.YtbbonbhammfpjaaDoorAll5
import Derived.Test.YtbbonbhammfpjaaDoorAll5
import Derived.Test.YtbbonbhammfpjaaDoorNu
namespace Go.Proofs.YtbbonbhammfpjaaDoor.NuP
open Go.RowKit Go.Proofs.YtbbonbhammfpjaaDoorW.PrintWords Go.Proofs.YtbbonbhammfpjaaDoor.All Go.Proofs.YtbbonbhammfpjaaDoor.Dm Go.Proofs.YtbbonbhammfpjaaDoor.Ba Go.Proofs.YtbbonbhammfpjaaDoor.De Go.Proofs.YtbbonbhammfpjaaDoor.Nu Go.Lib
set_option linter.unusedVariables false

/-! ### Whole numbers' texts -/
theorem replace_f (s p q : List UInt8) (n : Int) (h1 : s.length ≤ 1000000000) (h2 : 1 ≤ p.length) (h3 : q.length ≤ 1000) : strings_Replace.f (ba s) (ba p) (ba q) n = some (ba (replace s p q n)) := by
  unfold strings_Replace.f
  rw [ba_size, ba_size, ba_size, if_pos ⟨h1, h2, h3⟩, ba_data, ba_data, ba_data]
  rfl
theorem itoa_len {n : Int} (h : I n) : (itoa n).length ≤ 20 := by
  have h1 := digits_len h
  unfold itoa
  split
  · simp only [List.length_cons]; omega
  · have e : n.natAbs = n.toNat := by omega
    rw [← e]; omega
theorem number_f' (n : Int) (h : I n) : number_number.f n = some (ba (numL n)) := by
  have e1 : strconv_Itoa.f n = some (ba (itoa n)) := by
    unfold strconv_Itoa.f
    rw [if_pos h.1, if_pos h.2]
    rfl
  unfold number_number.f
  rw [e1]
  simp only [Option.bind_some]
  rw [show (⟨#[45]⟩ : ByteArray) = ba [45] from rfl, show (⟨#[194, 175]⟩ : ByteArray) = ba [194, 175] from rfl, replace_f _ _ _ _ (by have := itoa_len h; omega) (by simp) (by simp), numL_of_itoa]
  rfl

/-! ### Pieces -/
theorem indexByte_mem (c : UInt8) : ∀ l : List UInt8, (0 ≤ indexByte l c) = (c ∈ l)
  | [] => by simp [indexByte]
  | b :: l => by
    have ih := indexByte_mem c l
    have hn : indexByte l c = -1 ∨ 0 ≤ indexByte l c := by
      have : ∀ l : List UInt8, indexByte l c = -1 ∨ 0 ≤ indexByte l c := by
        intro l
        induction l with
        | nil => left; rfl
        | cons b l ih =>
          unfold indexByte
          split
          · right; decide
          · split
            · left; rfl
            · right; simp_all; omega
      exact this l
    unfold indexByte
    by_cases h : b = c
    · subst h; simp
    · have h2 : ¬ (c = b) := fun k => h k.symm
      simp only [List.mem_cons, h2, false_or, ← ih]
      rcases hn with k | k
      · rw [k]; simp [h]
      · have k2 : ¬ (indexByte l c = -1) := by omega
        simp [h, k2]
        omega
theorem digE_mem (c : UInt8) : (c ∈ ([48, 49, 50, 51, 52, 53, 54, 55, 56, 57, 69] : List UInt8)) = (digE c = true) := by
  have e : ∀ d : UInt8, (c = d) ↔ (c.toNat = d.toNat) := fun d => ⟨fun k => by rw [k], fun k => UInt8.toNat.inj k⟩
  unfold digE
  simp only [List.mem_cons, List.not_mem_nil, or_false, e, Bool.or_eq_true, Bool.and_eq_true, decide_eq_true_eq, beq_iff_eq, eq_iff_iff]
  all_goals first | done | (simp; omega)
theorem index_f (c : UInt8) : ∃ t, strings_IndexByte.f (⟨#[48, 49, 50, 51, 52, 53, 54, 55, 56, 57, 69]⟩ : ByteArray) (c.toNat : Int) = some t ∧ (t ≥ 0 ↔ digE c = true) := by
  refine ⟨_, rfl, ?_⟩
  have e : ((c.toNat : Int).toNat).toUInt8 = c := by simp
  rw [e, ← digE_mem c, ← indexByte_mem]
theorem hasPrefix_minus (c : UInt8) (l : List UInt8) : hasPrefix (c :: l) [194, 175] = true ↔ c = 194 ∧ l.head? = some 175 := by
  unfold hasPrefix
  cases l with
  | nil => simp [List.isPrefixOf]
  | cons d l =>
    simp [List.isPrefixOf]
    exact ⟨fun h => ⟨h.1.symm, h.2.symm⟩, fun h => ⟨h.1.symm, h.2.symm⟩⟩
theorem cut_loop (s : List UInt8) (hs : s.length ≤ 1000000) : ∀ (d i : Nat), s.length ≤ i + d → i ≤ s.length → Ev (fun k => number_cut.l0 k (ba s) (i : Int)) (ba (s.take (i + pieces (s.drop i))), ba (s.drop (i + pieces (s.drop i))))
  | d, i, hd, hi => by
    have hz := ba_size s
    by_cases hlt : i < s.length
    · have hdr := List.drop_eq_getElem_cons hlt
      generalize hc : s[i] = c at hdr
      have hb : bt (ba s) (i : Int) = (c.toNat : Int) := by rw [ba_bt s i hlt, hc]
      obtain ⟨t, ht, hti⟩ := index_f c
      have hx : (ba s).extract ((i : Nat) : Int).toNat (ba s).size = ba (c :: s.drop (i + 1)) := by
        rw [Int.toNat_natCast, ba_extract, hz, hdr]
        congr 1
        rw [List.take_of_length_le (by rw [← hdr, List.length_drop]; exact Nat.le_refl _)]
      cases hE : digE c with
      | true =>
        obtain ⟨d, rfl⟩ : ∃ e, d = e + 1 := ⟨d - 1, by omega⟩
        have ih := cut_loop s hs d (i + 1) (by omega) hlt
        rw [hdr, pieces_dig hE]
        rw [show i + 1 + pieces (s.drop (i + 1)) = i + (1 + pieces (s.drop (i + 1))) by omega] at ih
        refine Ev.step (fun k => ?_) ih
        simp only [number_cut.l0]
        rw [if_pos (by omega), if_pos (by omega), hb, ht]
        simp only [Option.bind_some]
        rw [if_pos (hti.2 hE), wrapI (by unfold I; omega)]
        rfl
      | false =>
        have hnt : ¬ t ≥ 0 := fun k => by rw [hti.1 k] at hE; cases hE
        by_cases hm : c = 194 ∧ (s.drop (i + 1)).head? = some 175
        · obtain ⟨rfl, hh⟩ := hm
          obtain ⟨l, hl⟩ : ∃ l, s.drop (i + 1) = 175 :: l := by
            cases hq : s.drop (i + 1) with
            | nil => rw [hq] at hh; cases hh
            | cons x l => rw [hq] at hh; exact ⟨l, by rw [show x = 175 by simpa using hh]⟩
          have hl2 : s.drop (i + 2) = l := by rw [show i + 2 = (i + 1) + 1 by omega, ← List.drop_drop, hl]; rfl
          have hlen : i + 2 ≤ s.length := by
            have := congrArg List.length hl
            rw [List.length_drop, List.length_cons] at this
            omega
          obtain ⟨d, rfl⟩ : ∃ e, d = e + 1 := ⟨d - 1, by omega⟩
          have ih := cut_loop s hs d (i + 2) (by omega) hlen
          rw [hl2] at ih
          rw [hdr, hl, pieces_minus]
          rw [show i + 2 + pieces l = i + (2 + pieces l) by omega] at ih
          refine Ev.step (fun k => ?_) ih
          simp only [number_cut.l0]
          rw [if_pos (by omega), if_pos (by omega), hb, ht]
          simp only [Option.bind_some]
          rw [if_neg hnt, if_pos (by omega), hx]
          unfold strings_HasPrefix.f
          rw [hasPrefix_f]
          simp only [Option.bind_some]
          rw [ba_data, if_pos ((hasPrefix_minus _ _).2 ⟨rfl, hh⟩), wrapI (by unfold I; omega)]
          rfl
        · have hp : pieces (s.drop i) = 0 := by rw [hdr]; exact pieces_stop hE hm
          rw [hp, Nat.add_zero]
          refine Ev.step (f := fun _ => some _) (fun k => ?_) (Ev.now _)
          simp only [number_cut.l0]
          rw [if_pos (by omega), if_pos (by omega), hb, ht]
          simp only [Option.bind_some]
          rw [if_neg hnt, if_pos (by omega)]
          rw [hx]
          unfold strings_HasPrefix.f
          rw [hasPrefix_f]
          simp only [Option.bind_some]
          rw [ba_data, if_neg (fun k => hm ((hasPrefix_minus _ _).1 k)), ← hdr, ba_extract, Int.toNat_natCast, List.drop_zero, Nat.sub_zero]
    · have he : s.drop i = [] := List.drop_eq_nil_of_le (by omega)
      rw [he, show pieces [] = 0 from rfl, Nat.add_zero, he, List.take_of_length_le (by omega)]
      refine Ev.step (f := fun _ => some _) (fun k => ?_) (Ev.now _)
      simp only [number_cut.l0]
      rw [if_neg (by omega)]
      rfl
theorem cut_ev (s : List UInt8) (hs : s.length ≤ 1000000) : Ev (fun k => number_cut.f k (ba s)) (ba (s.take (pieces s)), ba (s.drop (pieces s))) := by
  have := cut_loop s hs s.length 0 (by omega) (by omega)
  rw [List.drop_zero, Nat.zero_add] at this
  exact this

/-! ### One number -/
theorem repM_len (s : List UInt8) : (repM s).length ≤ s.length := by
  unfold repM
  have hg := index_ge s [194, 175]
  by_cases h : index s [194, 175] = -1
  · rw [replace_miss (by decide) h]; exact Nat.le_refl _
  · obtain ⟨i, hi⟩ : ∃ i : Nat, index s [194, 175] = i := ⟨(index s [194, 175]).toNat, by omega⟩
    have hr := index_room s [194, 175] (by omega)
    rw [replace_hit (by decide) (by simp) hi]
    simp at hr ⊢
    omega
theorem read_ev (s : List UInt8) (hs : s.length ≤ 1000000) : Ev (fun k => number_read.f k (ba s)) (readN s) := by
  have hp := parse_ev (ba s) (by rw [ba_size]; omega)
  rw [ba_data] at hp
  unfold number_read.f readN
  refine Ev.bind hp ?_
  by_cases h : (parseD s).2.2 = true
  · rw [if_pos h]
    exact Ev.if_pos h (Ev.now _)
  · rw [if_neg h]
    have hl := repM_len s
    refine Ev.if_neg h (Ev.bind0 (replace_f s [194, 175] [45] 1 (by omega) (by simp) (by simp)) ?_)
    refine Ev.if_pos (by rw [ba_size]; show (repM s).length ≤ _; omega) ?_
    rw [ba_data]
    refine Ev.bind (of_ev _ (atoiVal_I (repM s))) (Ev.bind0 (number_f' _ (atoiVal_I (repM s))) (Ev.const fun k => ?_))
    rw [ba_toList, ba_toList]
    have e : (numL (atoiVal (repM s)) == s) = decide (numL (atoiVal (repM s)) = s) := by
      rw [Bool.eq_iff_iff, beq_iff_eq, decide_eq_true_eq]
    rw [← e]
    rfl

/-! ### Rows that are read -/
def toS (p : Int × Int) : S28 := ⟨p.1, p.2⟩
def resR (q : Option (List (Int × Int) × List UInt8)) (out : List S28) : List S28 × ByteArray × Bool := match q with
  | some (l, r) => (out ++ l.map toS, ba r, true)
  | none => ([], ba [], false)
theorem cutPrefix_f (b : List UInt8) : strings_CutPrefix.f (ba b) (⟨#[32]⟩ : ByteArray) = some (if b.head? = some 32 then (ba (b.drop 1), true) else (ba b, false)) := by
  unfold strings_CutPrefix.f stringslite_CutPrefix.f
  rw [hasPrefix_f, ba_data]
  simp only [Option.bind_some]
  have e : (⟨#[32]⟩ : ByteArray).size = 1 := rfl
  have hp : hasPrefix b (⟨#[32]⟩ : ByteArray).data.toList = true ↔ b.head? = some 32 := by
    show hasPrefix b [32] = true ↔ _
    unfold hasPrefix
    cases b with
    | nil => simp
    | cons c l =>
      simp [List.isPrefixOf]
      exact ⟨fun h => h.symm, fun h => h.symm⟩
  by_cases h : b.head? = some 32
  · have hl : 1 ≤ b.length := by cases b with
      | nil => cases h
      | cons c l => simp
    have hz := ba_size b
    rw [if_pos (hp.2 h), if_pos h, e, if_pos (by decide), if_pos (by omega)]
    simp only [Option.bind_some]
    rw [show ((1 : Nat) : Int).toNat = 1 from rfl, ba_extract, ba_size, List.take_of_length_le (by rw [List.length_drop]; exact Nat.le_refl _)]
  · rw [if_neg (fun k => h (hp.1 k)), if_neg h]
    rfl
theorem goesOn_eq (b : List UInt8) : goesOn b = true ↔ b.head? = some 32 ∧ pieces (b.drop 1) ≠ 0 := by
  unfold goesOn
  simp
theorem take_nil {l : List UInt8} : l.take (pieces l) = [] ↔ pieces l = 0 := by
  have := pieces_le l
  constructor
  · intro h
    have h2 := congrArg List.length h
    rw [List.length_take, List.length_nil] at h2
    omega
  · intro h; rw [h]; rfl
theorem read_loop : ∀ (n : Nat) (s : List UInt8), s.length ≤ n → ∀ out : List S28, out.length + s.length ≤ 1000000 → Ev (fun k => number_Read.l0 k (ba s) out) (resR (readL s) out) := by
  intro n
  induction n with
  | zero =>
    intro s hs out ho
    obtain rfl : s = [] := List.eq_nil_of_length_eq_zero (by omega)
    rw [readL_none (by exact readN_nil)]
    refine Ev.step (fun _ => number_Read.l0.eq_2 ..) (Ev.bind (cut_ev [] (by simp)) (Ev.bind (read_ev _ (by simp)) ?_))
    exact Ev.if_neg (by decide) (Ev.now _)
  | succ n ih =>
    intro s hs out ho
    refine Ev.step (fun _ => number_Read.l0.eq_2 ..) (Ev.bind (cut_ev s (by omega)) (Ev.bind (read_ev (s.take (pieces s)) (by rw [List.length_take]; omega)) ?_))
    rcases readN_or (s.take (pieces s)) with h1 | ⟨m, e, h1⟩
    · rw [readL_none h1]
      exact Ev.if_neg (by rw [h1]; decide) (Ev.now _)
    · rw [h1]
      refine Ev.if_pos rfl (Ev.if_pos (by omega) (Ev.bind0 rfl (Ev.bind0 (cutPrefix_f _) ?_)))
      generalize hb : s.drop (pieces s) = b
      have hbl : b.length ≤ s.length := by rw [← hb, List.length_drop]; omega
      by_cases hh : b.head? = some 32
      · rw [if_pos hh]
        refine Ev.bind (cut_ev (b.drop 1) (by rw [List.length_drop]; omega)) (Ev.if_pos rfl ?_)
        rw [ba_toList]
        by_cases hp : pieces (b.drop 1) = 0
        · have hg : goesOn (s.drop (pieces s)) = false := by
            rw [hb]
            cases hq : goesOn b with
            | false => rfl
            | true => exact absurd hp ((goesOn_eq b).1 hq).2
          rw [readL_stop h1 hg]
          refine Ev.if_pos (take_nil.2 hp) (Ev.const fun k => ?_)
          show _ = some (out ++ [toS (m, e)], ba (s.drop (pieces s)), true)
          rw [hb]
          rfl
        · have hg : goesOn (s.drop (pieces s)) = true := by rw [hb]; exact (goesOn_eq b).2 ⟨hh, hp⟩
          have hb1 : 1 ≤ b.length := by cases b with
            | nil => cases hh
            | cons c l => simp
          refine Ev.if_neg (fun k => hp (take_nil.1 k)) ?_
          have ih' := ih (b.drop 1) (by
            rw [List.length_drop]
            omega) (out ++ [toS (m, e)]) (by simp only [List.length_append, List.length_singleton, List.length_drop]; omega)
          rw [readL_go h1 hg, hb]
          cases hq : readL (b.drop 1) with
          | none =>
            rw [hq] at ih'
            exact ih'
          | some q =>
            rw [hq] at ih'
            have e2 : resR (some q) (out ++ [toS (m, e)]) = resR (Option.map (fun q => ((m, e) :: q.1, q.2)) (some q)) out := by
              show (out ++ [toS (m, e)] ++ q.1.map toS, ba q.2, true) = (out ++ (((m, e) :: q.1).map toS), ba q.2, true)
              rw [List.append_assoc]
              rfl
            rw [← e2]
            exact ih'
      · rw [if_neg hh]
        have hg : goesOn (s.drop (pieces s)) = false := by
          rw [hb]
          cases hq : goesOn b with
          | false => rfl
          | true => exact absurd ((goesOn_eq b).1 hq).1 hh
        rw [readL_stop h1 hg]
        refine Ev.bind (cut_ev b (by omega)) (Ev.if_neg (fun k => by cases k) (Ev.const fun k => ?_))
        show _ = some (out ++ [toS (m, e)], ba (s.drop (pieces s)), true)
        rw [hb]
        rfl
theorem Read_ev (s : List UInt8) (hs : s.length ≤ 1000000) : Ev (fun k => number_Read.f k (ba s)) (resR (readL s) []) := read_loop s.length s (Nat.le_refl _) [] (by simpa using hs)

/-! ### Rows that are written -/
theorem join_snoc (t : List UInt8) : ∀ (ts : List (List UInt8)), join (ts ++ [t]) [32] = if ts = [] then t else join ts [32] ++ 32 :: t
  | [] => by rw [List.nil_append, Nu.join_one, if_pos rfl]
  | [u] => by
    rw [if_neg (by simp), List.cons_append, List.nil_append, join_cons2, Nu.join_one, Nu.join_one]
  | u :: v :: ts => by
    have ih := join_snoc t (v :: ts)
    rw [if_neg (by simp)] at ih
    rw [if_neg (by simp), List.cons_append, List.cons_append, join_cons2, ← List.cons_append, ih, join_cons2, List.append_assoc]
    rfl
theorem join_nil : join [] [32] = [] := rfl
theorem join_len (B : Nat) : ∀ (ts : List (List UInt8)), (∀ t ∈ ts, t.length ≤ B) → (join ts [32]).length ≤ (B + 1) * ts.length
  | [], _ => by rw [join_nil]; simp
  | [t], h => by
    rw [Nu.join_one]
    have := h t (List.mem_singleton_self t)
    simp
    omega
  | t :: u :: ts, h => by
    have ih := join_len B (u :: ts) (fun x hx => h x (List.mem_cons_of_mem _ hx))
    have h0 := h t (List.mem_cons_self)
    rw [join_cons2, List.length_append, List.length_cons, List.length_cons (a := t), Nat.mul_add]
    omega
theorem join_f (ts : List (List UInt8)) (B : Nat) (hB : B ≤ 1000) (h : ∀ t ∈ ts, t.length ≤ B) (hl : ts.length ≤ 1000000) : strings_Join.f (ts.map ba) (⟨#[32]⟩ : ByteArray) = some (ba (join ts [32])) := by
  have e : (ts.map ba).map (·.data.toList) = ts := by
    rw [List.map_map]
    conv => rhs; rw [← List.map_id ts]
    exact List.map_congr_left fun t _ => ba_data t
  have hj := join_len B ts h
  have hm : (B + 1) * ts.length ≤ 1001 * 1000000 := Nat.mul_le_mul (by omega) hl
  unfold strings_Join.f
  rw [e, List.length_map, show (⟨#[32]⟩ : ByteArray).data.toList = [32] from rfl, if_pos ⟨by omega, by omega⟩]
  rfl
theorem rd_mid (p q : List Int) (x : Int) : rd (p ++ x :: q) (p.length : Int) = x := by
  unfold rd
  rw [Int.toNat_natCast, List.getD_eq_getElem?_getD, List.getElem?_append_right (Nat.le_refl _), Nat.sub_self]
  rfl
theorem rdT_mid (p q : List S28) (x : S28) : rd_T28 (p ++ x :: q) (p.length : Int) = x := by
  unfold rd_T28
  rw [Int.toNat_natCast, List.getD_eq_getElem?_getD, List.getElem?_append_right (Nat.le_refl _), Nat.sub_self]
  rfl
def intsL (l : List Int) : List UInt8 := join (l.map numL) [32]
theorem ints_loop (l : List Int) (h : ∀ x ∈ l, I x) (hl : l.length ≤ 1000) : ∀ (q p : List Int), l = p ++ q → Ev (fun k => number_Ints.l0 k ((p.map numL).map ba) l (l.length : Int) (p.length : Int)) (ba (intsL l))
  | [], p, hp => by
    rw [List.append_nil] at hp
    subst hp
    refine Ev.step (fun _ => number_Ints.l0.eq_2 ..) (Ev.if_neg (by omega) ?_)
    exact Ev.bind0 (join_f (l.map numL) 21 (by decide) (fun t ht => by
      obtain ⟨x, hx, rfl⟩ := List.mem_map.1 ht
      exact numL_len (h x hx)) (by rw [List.length_map]; omega)) (Ev.now _)
  | x :: q, p, hp => by
    have hlen : l.length = p.length + q.length + 1 := by rw [hp]; simp; omega
    have hx : I x := h x (by rw [hp]; simp)
    have ih := ints_loop l h hl q (p ++ [x]) (by rw [hp]; simp)
    refine Ev.step (fun _ => number_Ints.l0.eq_2 ..) (Ev.if_pos (by omega) (Ev.if_pos (by omega) (Ev.if_pos (by omega) ?_)))
    have hr : rd l (p.length : Int) = x := by rw [hp]; exact rd_mid p q x
    rw [hr]
    refine Ev.bind0 (number_f' x hx) (Ev.if_pos (by simp; omega) ?_)
    rw [wrapI (by unfold I; omega)]
    rw [List.length_append, List.length_singleton, List.map_append, List.map_append] at ih
    exact ih
theorem Ints_ev (l : List Int) (h : ∀ x ∈ l, I x) (hl : l.length ≤ 1000) : Ev (fun k => number_Ints.f k l) (ba (intsL l)) := ints_loop l h hl l [] rfl
def ID (x : S28) : Prop := I x.f0 ∧ I x.f1
def rightS (x : S28) : Prop := isRight x.f0 x.f1
instance (x : S28) : Decidable (rightS x) := by unfold rightS; infer_instance
def textS (x : S28) : List UInt8 := textL x.f0 x.f1
def decsL (l : List S28) : List UInt8 := if ∀ x ∈ l, rightS x then join (l.map textS) [32] else []
theorem decs_loop (l : List S28) (h : ∀ x ∈ l, ID x) (hl : l.length ≤ 1000) : ∀ (q p : List S28), l = p ++ q → (∀ x ∈ p, rightS x) → Ev (fun k => number_Decs.l0 k ((p.map textS).map ba) l (l.length : Int) (p.length : Int)) (ba (decsL l))
  | [], p, hp, hpr => by
    rw [List.append_nil] at hp
    subst hp
    unfold decsL
    rw [if_pos hpr]
    refine Ev.step (fun _ => number_Decs.l0.eq_2 ..) (Ev.if_neg (by omega) ?_)
    exact Ev.bind0 (join_f (l.map textS) 43 (by decide) (fun t ht => by
      obtain ⟨x, hx, rfl⟩ := List.mem_map.1 ht
      exact textL_len (h x hx).1 (h x hx).2) (by rw [List.length_map]; omega)) (Ev.now _)
  | x :: q, p, hp, hpr => by
    have hlen : l.length = p.length + q.length + 1 := by rw [hp]; simp; omega
    have hxm : x ∈ l := by rw [hp]; simp
    have hx := h x hxm
    refine Ev.step (fun _ => number_Decs.l0.eq_2 ..) (Ev.if_pos (by omega) (Ev.if_pos (by omega) (Ev.if_pos (by omega) ?_)))
    have hr : rd_T28 l (p.length : Int) = x := by rw [hp]; exact rdT_mid p q x
    rw [hr]
    refine Ev.bind (right_ev' _ _ hx.1 hx.2) ?_
    by_cases hR : isRight x.f0 x.f1
    · have ih := decs_loop l h hl q (p ++ [x]) (by rw [hp]; simp) (fun y hy => by
        rcases List.mem_append.1 hy with hy | hy
        · exact hpr y hy
        · rw [List.mem_singleton.1 hy]; exact hR)
      refine Ev.if_pos (by simpa using hR) (Ev.bind (text_ev _ _ hx.1 hx.2) (Ev.if_pos (by simp; omega) ?_))
      rw [wrapI (by unfold I; omega)]
      rw [List.length_append, List.length_singleton, List.map_append, List.map_append] at ih
      exact ih
    · refine Ev.if_neg (by simpa using hR) (Ev.const fun k => ?_)
      unfold decsL
      rw [if_neg (fun k => hR (k x hxm))]
      rfl
theorem Decs_ev (l : List S28) (h : ∀ x ∈ l, ID x) (hl : l.length ≤ 1000) : Ev (fun k => number_Decs.f k l) (ba (decsL l)) := decs_loop l h hl l [] rfl (by simp)
end Go.Proofs.YtbbonbhammfpjaaDoor.NuP
