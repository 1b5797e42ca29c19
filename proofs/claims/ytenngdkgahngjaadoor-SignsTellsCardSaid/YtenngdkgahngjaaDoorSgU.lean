/- Walks through the code of signs, by hand. -/
import Derived.Test.YtenngdkgahngjaaDoorGTabs
import Derived.Test.YtenngdkgahngjaaDoorWMore
import Derived.Lib.OthersKept
import Derived.WalkKit
import Derived.BigCall
import Derived.KernelRfl
import Derived.Below
import Derived.Test.YtenngdkgahngjaaDoorGShelf
import Derived.Lib.TrimU
import Derived.Laws.Slices
import Derived.Laws.Cover4
import Derived.Laws.BitsAllLaws
import Derived.Laws.BytesArg
import Derived.Lib.LazyBuf
import Derived.Lib.IfaceEq
import Derived.Test.YtenngdkgahngjaaDoorSgS
import Derived.Test.YtenngdkgahngjaaDoorSgE
namespace Go.Proofs.YtenngdkgahngjaaDoor.All
open Go.RowKit Go.Proofs.YtenngdkgahngjaaDoorW.PrintWords Go.Proofs.YtenngdkgahngjaaDoorW.PrintLast Go.Proofs.YtenngdkgahngjaaDoorW.PrintMore Go.Proofs.YtenngdkgahngjaaDoor.G
set_option linter.unusedVariables false
set_option linter.unusedSimpArgs false
set_option maxHeartbeats 4000000
set_option maxRecDepth 1000000
def parseS : Nat → List UInt8 → List UInt8 → Option (List UInt8)
  | 0, _, _ => none
  | f + 1, l, acc => if l = [] then some acc else if (Lib.cut l [64]).2.2 = false then some (acc ++ (Lib.cut l [64]).1) else if (sgn (Lib.cut l [64]).2.1).2.2 = true then parseS f (sgn (Lib.cut l [64]).2.1).2.1 (acc ++ (Lib.cut l [64]).1 ++ Lib.encodeRune (sgn (Lib.cut l [64]).2.1).1) else none
def escE (o : List UInt8) : List UInt8 × Bool := if Lib.validD o = true then (escS ⟨o.toArray⟩, true) else ([], false)
def unE (t : List UInt8) : List UInt8 × Bool :=
  match parseS (t.length + 1) t [] with
  | none => ([], false)
  | some o => if (escE o).2 = true ∧ (escE o).1 = t then (o, true) else ([], false)
theorem cut_more (l : List UInt8) (h : (Lib.cut l [64]).2.2 = true) : (Lib.cut l [64]).1.length + 1 + (Lib.cut l [64]).2.1.length = l.length := by
  unfold Lib.cut at h ⊢
  split at h
  · rename_i h0
    rw [if_pos h0]
    have := Lib.index_room l [64] h0
    simp only [List.length_take, List.length_drop, List.length_cons, List.length_nil] at this ⊢
    omega
  · simp at h
theorem un_some {t o : List UInt8} (h : some o = parseS (t.length + 1) t []) : unE t = if (escE o).2 = true ∧ (escE o).1 = t then (o, true) else ([], false) := by
  unfold unE
  rw [← h]
theorem un_none {t : List UInt8} (h : none = parseS (t.length + 1) t []) : unE t = ([], false) := by
  unfold unE
  rw [← h]
theorem str_ne (a b : List UInt8) : ((⟨a.toArray⟩ : ByteArray).toList == (⟨b.toArray⟩ : ByteArray).toList) = decide (a = b) := by
  rw [Lib.toList_data, Lib.toList_data]
  by_cases h : a = b
  · rw [decide_eq_true h]; subst h; simp
  · rw [decide_eq_false h]; simpa using h
theorem Unescape_walk (t : List UInt8) (w : World) (hT : Tabs w) (hs : t.length ≤ 10000000)
    (C9 : ∀ W, Tabs W → ∀ o : List UInt8, o.length ≤ 100000000 → Calls Tryd.prog 9 #[.string ⟨o.toArray⟩] W fun e w' => e = .returned (.tuple #[.string ⟨(escE o).1.toArray⟩, .bool (escE o).2]) ∧ Below W.heap.size W w')
    (C20 : ∀ W, Tabs W → ∀ l : List UInt8, l.length ≤ 10000000 → Calls Tryd.prog 20 #[.string ⟨l.toArray⟩, .string ⟨#[64]⟩] W fun e w' => e = .returned (.tuple #[.string ⟨(Lib.cut l [64]).1.toArray⟩, .string ⟨(Lib.cut l [64]).2.1.toArray⟩, .bool (Lib.cut l [64]).2.2]) ∧ Below W.heap.size W w')
    (C21 : ∀ W, Tabs W → ∀ l : List UInt8, l.length ≤ 10000000 → Calls Tryd.prog 21 #[.string ⟨l.toArray⟩] W fun e w' => e = .returned (.tuple #[.int .i32 (sgn l).1, .string ⟨(sgn l).2.1.toArray⟩, .bool (sgn l).2.2]) ∧ Below W.heap.size W w') :
    Calls Tryd.prog 11 #[.string ⟨t.toArray⟩] w fun e w' => e = .returned (.tuple #[.string ⟨(unE t).1.toArray⟩, .bool (unE t).2]) ∧ Below w.heap.size w w' := by
  go_enter Tryd.func11, Tryd.ntmps11
  go_wp2
  go_loopw [5] (fun v5 wr => ∃ (l acc : List UInt8) (f : Nat), v5 = .string ⟨l.toArray⟩ ∧ Lib.IsBuilderF 31 5 w.heap.size w.heap.size (Lib.byteCells acc) wr ∧ Below w.heap.size w wr ∧ parseS f l acc = parseS (t.length + 1) t [] ∧ l.length < f ∧ l.length ≤ t.length ∧ acc.length ≤ 4 * (t.length - l.length)) (fun v5 _ => match v5 with | .string s => s.size | _ => 0)
  case atStart =>
    exact ⟨t, [], t.length + 1, rfl, Lib.IsBuilderF.of (Lib.fresh_isBuilder 31 5 w), (Below.refl _ w).alloc (Nat.le_refl _) _, rfl, by omega, by omega, by simp⟩
  case round =>
    obtain ⟨l, acc, f, rfl, hI, hbw, hacc, hf, hl, hal⟩ := hrel
    obtain ⟨f, rfl⟩ : ∃ g, f = g + 1 := ⟨f - 1, by omega⟩
    have HI := Aside0.mk hI
    have HB := Aside0.mk hbw
    clear hI hbw
    by_cases hnil : l = []
    · subst hnil
      have hn : ((⟨([] : List UInt8).toArray⟩ : ByteArray).toList == ([] : List UInt8)) = true := by decide +kernel
      have hn3 : ((⟨([] : List UInt8).toArray⟩ : ByteArray).toList != ([] : List UInt8)) = false := by decide +kernel
      have hn2 : ((⟨#[]⟩ : ByteArray).toList == ([] : List UInt8)) = true := by decide +kernel
      have hn4 : ((⟨#[]⟩ : ByteArray).toList != ([] : List UInt8)) = false := by decide +kernel
      rw [parseS, if_pos rfl] at hacc
      have hun := un_some hacc
      have hle : acc.length ≤ 40000000 := by omega
      clear hacc
      have C9' := fun W hW => C9 W hW (acc) (by first | omega | (rw [List.length_append]; omega))
      generalize escE (acc) = p at hun C9'
      obtain ⟨a, k⟩ := p
      simp only at hun C9'
      cases k with
      | false =>
        rw [if_neg (by simp)] at hun
        go_wp2_with (first | (go_at_call 17; (with_reducible refine (Tryd.Builder_String_any_k w.heap.size w.heap.size (acc) _ HI.out HB.out.size).mono ?_); rintro e W1 ⟨rfl, hi, b1, _⟩; have m1_ := Aside0.mk hi; have m2_ := Aside0.mk (HB.out.trans b1); clear HI; clear HB; have HI := m1_; have HB := m2_; clear m1_ m2_ hi b1) | (go_at_call 9; (with_reducible refine (C9' _ (hT.below HB.out)).mono ?_); rintro e w1 ⟨rfl, hb⟩; have m1_ := Aside0.mk (builder_below HI.out hb); have m2_ := Aside0.mk (HB.out.trans (hb.mono HB.out.size)); clear HI; clear HB; have HI := m1_; have HB := m2_; clear m1_ m2_ hb))
        go_ret2
        rw [hun]
        exact ⟨rfl, HB.out⟩
      | true =>
        have hst := str_ne a t
        by_cases hat : a = t
        · rw [if_pos ⟨rfl, hat⟩] at hun
          rw [decide_eq_true hat] at hst
          have hst2 : ((⟨a.toArray⟩ : ByteArray).toList != (⟨t.toArray⟩ : ByteArray).toList) = false := by rw [bne, hst]; rfl
          have hq1 : (a == t) = true := beq_iff_eq.2 hat
          have hq2 : (a != t) = false := by rw [bne, hq1]; rfl
          go_wp2_with (first | (go_at_call 17; (with_reducible refine (Tryd.Builder_String_any_k w.heap.size w.heap.size (acc) _ HI.out HB.out.size).mono ?_); rintro e W1 ⟨rfl, hi, b1, _⟩; have m1_ := Aside0.mk hi; have m2_ := Aside0.mk (HB.out.trans b1); clear HI; clear HB; have HI := m1_; have HB := m2_; clear m1_ m2_ hi b1) | (go_at_call 9; (with_reducible refine (C9' _ (hT.below HB.out)).mono ?_); rintro e w1 ⟨rfl, hb⟩; have m1_ := Aside0.mk (builder_below HI.out hb); have m2_ := Aside0.mk (HB.out.trans (hb.mono HB.out.size)); clear HI; clear HB; have HI := m1_; have HB := m2_; clear m1_ m2_ hb))
          go_ret2
          rw [hun]
          exact ⟨rfl, HB.out⟩
        · rw [if_neg (fun k => hat k.2)] at hun
          rw [decide_eq_false hat] at hst
          have hst2 : ((⟨a.toArray⟩ : ByteArray).toList != (⟨t.toArray⟩ : ByteArray).toList) = true := by rw [bne, hst]; rfl
          have hq1 : (a == t) = false := beq_eq_false_iff_ne.2 hat
          have hq2 : (a != t) = true := by rw [bne, hq1]; rfl
          go_wp2_with (first | (go_at_call 17; (with_reducible refine (Tryd.Builder_String_any_k w.heap.size w.heap.size (acc) _ HI.out HB.out.size).mono ?_); rintro e W1 ⟨rfl, hi, b1, _⟩; have m1_ := Aside0.mk hi; have m2_ := Aside0.mk (HB.out.trans b1); clear HI; clear HB; have HI := m1_; have HB := m2_; clear m1_ m2_ hi b1) | (go_at_call 9; (with_reducible refine (C9' _ (hT.below HB.out)).mono ?_); rintro e w1 ⟨rfl, hb⟩; have m1_ := Aside0.mk (builder_below HI.out hb); have m2_ := Aside0.mk (HB.out.trans (hb.mono HB.out.size)); clear HI; clear HB; have HI := m1_; have HB := m2_; clear m1_ m2_ hb))
          go_ret2
          rw [hun]
          exact ⟨rfl, HB.out⟩
    · have hemp : l.isEmpty = false := by
        cases l with
        | nil => exact absurd rfl hnil
        | cons _ _ => rfl
      have hn : ((⟨l.toArray⟩ : ByteArray).toList == ([] : List UInt8)) = false := beq_eq_false_iff_ne.2 (by rw [Lib.toList_data]; simpa using hnil)
      have hn3 : ((⟨l.toArray⟩ : ByteArray).toList != ([] : List UInt8)) = true := by rw [bne, hn]; rfl
      have hcl := cut_len l [64]
      have hcm := cut_more l
      have C20' := fun W hW => C20 W hW l (by omega)
      rw [parseS, if_neg hnil] at hacc
      generalize Lib.cut l [64] = c at hcl hcm C20' hacc
      have hlen15 : (Lib.byteCells acc).length + (⟨c.1.toArray⟩ : ByteArray).size ≤ 140737488355328 := by rw [Lib.byteCells_length, Lib.size_eq]; simp only; omega
      cases hm : c.2.2 with
      | false =>
        rw [hm] at C20'
        rw [if_pos hm] at hacc
        have hun := un_some hacc
        have hle : acc.length + c.1.length ≤ 40000000 := by omega
        clear hacc
        have C9' := fun W hW => C9 W hW (acc ++ c.1) (by first | omega | (rw [List.length_append]; omega))
        generalize escE (acc ++ c.1) = p at hun C9'
        obtain ⟨a, k⟩ := p
        simp only at hun C9'
        cases k with
        | false =>
          rw [if_neg (by simp)] at hun
          go_wp2_with (first | (go_at_call 20; (with_reducible refine (C20' _ (hT.below HB.out)).mono ?_); rintro e w1 ⟨rfl, hb⟩; have m1_ := Aside0.mk (builder_below HI.out hb); have m2_ := Aside0.mk (HB.out.trans (hb.mono HB.out.size)); clear HI; clear HB; have HI := m1_; have HB := m2_; clear m1_ m2_ hb) | (go_at_call 15; (with_reducible refine (Tryd.Builder_WriteString_k w.heap.size w.heap.size _ ⟨c.1.toArray⟩ _ HI.out hlen15 HB.out.size).mono ?_); rintro e W1 ⟨rfl, hi, b1, _⟩; have m1_ := Aside0.mk (show Lib.IsBuilderF 31 5 w.heap.size w.heap.size (Lib.byteCells (acc ++ c.1)) _ by rw [Lib.byteCells_append]; exact Or.inr hi); have m2_ := Aside0.mk (HB.out.trans b1); clear HI; clear HB; have HI := m1_; have HB := m2_; clear m1_ m2_ hi b1) | (go_at_call 17; (with_reducible refine (Tryd.Builder_String_any_k w.heap.size w.heap.size (acc ++ c.1) _ HI.out HB.out.size).mono ?_); rintro e W1 ⟨rfl, hi, b1, _⟩; have m1_ := Aside0.mk hi; have m2_ := Aside0.mk (HB.out.trans b1); clear HI; clear HB; have HI := m1_; have HB := m2_; clear m1_ m2_ hi b1) | (go_at_call 9; (with_reducible refine (C9' _ (hT.below HB.out)).mono ?_); rintro e w1 ⟨rfl, hb⟩; have m1_ := Aside0.mk (builder_below HI.out hb); have m2_ := Aside0.mk (HB.out.trans (hb.mono HB.out.size)); clear HI; clear HB; have HI := m1_; have HB := m2_; clear m1_ m2_ hb))
          go_ret2
          rw [hun]
          exact ⟨rfl, HB.out⟩
        | true =>
          have hst := str_ne a t
          by_cases hat : a = t
          · rw [if_pos ⟨rfl, hat⟩] at hun
            rw [decide_eq_true hat] at hst
            have hst2 : ((⟨a.toArray⟩ : ByteArray).toList != (⟨t.toArray⟩ : ByteArray).toList) = false := by rw [bne, hst]; rfl
            have hq1 : (a == t) = true := beq_iff_eq.2 hat
            have hq2 : (a != t) = false := by rw [bne, hq1]; rfl
            go_wp2_with (first | (go_at_call 20; (with_reducible refine (C20' _ (hT.below HB.out)).mono ?_); rintro e w1 ⟨rfl, hb⟩; have m1_ := Aside0.mk (builder_below HI.out hb); have m2_ := Aside0.mk (HB.out.trans (hb.mono HB.out.size)); clear HI; clear HB; have HI := m1_; have HB := m2_; clear m1_ m2_ hb) | (go_at_call 15; (with_reducible refine (Tryd.Builder_WriteString_k w.heap.size w.heap.size _ ⟨c.1.toArray⟩ _ HI.out hlen15 HB.out.size).mono ?_); rintro e W1 ⟨rfl, hi, b1, _⟩; have m1_ := Aside0.mk (show Lib.IsBuilderF 31 5 w.heap.size w.heap.size (Lib.byteCells (acc ++ c.1)) _ by rw [Lib.byteCells_append]; exact Or.inr hi); have m2_ := Aside0.mk (HB.out.trans b1); clear HI; clear HB; have HI := m1_; have HB := m2_; clear m1_ m2_ hi b1) | (go_at_call 17; (with_reducible refine (Tryd.Builder_String_any_k w.heap.size w.heap.size (acc ++ c.1) _ HI.out HB.out.size).mono ?_); rintro e W1 ⟨rfl, hi, b1, _⟩; have m1_ := Aside0.mk hi; have m2_ := Aside0.mk (HB.out.trans b1); clear HI; clear HB; have HI := m1_; have HB := m2_; clear m1_ m2_ hi b1) | (go_at_call 9; (with_reducible refine (C9' _ (hT.below HB.out)).mono ?_); rintro e w1 ⟨rfl, hb⟩; have m1_ := Aside0.mk (builder_below HI.out hb); have m2_ := Aside0.mk (HB.out.trans (hb.mono HB.out.size)); clear HI; clear HB; have HI := m1_; have HB := m2_; clear m1_ m2_ hb))
            go_ret2
            rw [hun]
            exact ⟨rfl, HB.out⟩
          · rw [if_neg (fun k => hat k.2)] at hun
            rw [decide_eq_false hat] at hst
            have hst2 : ((⟨a.toArray⟩ : ByteArray).toList != (⟨t.toArray⟩ : ByteArray).toList) = true := by rw [bne, hst]; rfl
            have hq1 : (a == t) = false := beq_eq_false_iff_ne.2 hat
            have hq2 : (a != t) = true := by rw [bne, hq1]; rfl
            go_wp2_with (first | (go_at_call 20; (with_reducible refine (C20' _ (hT.below HB.out)).mono ?_); rintro e w1 ⟨rfl, hb⟩; have m1_ := Aside0.mk (builder_below HI.out hb); have m2_ := Aside0.mk (HB.out.trans (hb.mono HB.out.size)); clear HI; clear HB; have HI := m1_; have HB := m2_; clear m1_ m2_ hb) | (go_at_call 15; (with_reducible refine (Tryd.Builder_WriteString_k w.heap.size w.heap.size _ ⟨c.1.toArray⟩ _ HI.out hlen15 HB.out.size).mono ?_); rintro e W1 ⟨rfl, hi, b1, _⟩; have m1_ := Aside0.mk (show Lib.IsBuilderF 31 5 w.heap.size w.heap.size (Lib.byteCells (acc ++ c.1)) _ by rw [Lib.byteCells_append]; exact Or.inr hi); have m2_ := Aside0.mk (HB.out.trans b1); clear HI; clear HB; have HI := m1_; have HB := m2_; clear m1_ m2_ hi b1) | (go_at_call 17; (with_reducible refine (Tryd.Builder_String_any_k w.heap.size w.heap.size (acc ++ c.1) _ HI.out HB.out.size).mono ?_); rintro e W1 ⟨rfl, hi, b1, _⟩; have m1_ := Aside0.mk hi; have m2_ := Aside0.mk (HB.out.trans b1); clear HI; clear HB; have HI := m1_; have HB := m2_; clear m1_ m2_ hi b1) | (go_at_call 9; (with_reducible refine (C9' _ (hT.below HB.out)).mono ?_); rintro e w1 ⟨rfl, hb⟩; have m1_ := Aside0.mk (builder_below HI.out hb); have m2_ := Aside0.mk (HB.out.trans (hb.mono HB.out.size)); clear HI; clear HB; have HI := m1_; have HB := m2_; clear m1_ m2_ hb))
            go_ret2
            rw [hun]
            exact ⟨rfl, HB.out⟩
      | true =>
        rw [hm] at C20'
        rw [if_neg (by rw [hm]; decide)] at hacc
        have hcm := hcm hm
        have C21' := fun W hW => C21 W hW c.2.1 (by omega)
        obtain ⟨hr1, hr2, hsl⟩ := sgn_facts c.2.1
        generalize hsg : sgn c.2.1 = g at C21' hacc hr1 hr2 hsl
        obtain ⟨r, rest, ok⟩ := g
        simp only at C21' hacc hr1 hr2 hsl
        have hlen22 : (Lib.byteCells (acc ++ c.1)).length + 4 ≤ 140737488355328 := by rw [Lib.byteCells_length, List.length_append]; omega
        have hel : (Lib.encodeRune r).length ≤ 4 := by
          have := (Lib.runeCells_le r).2
          rw [Lib.runeCells_length] at this
          exact this
        cases ok with
        | false =>
          rw [if_neg (by decide)] at hacc
          have hun := un_none hacc
          clear hacc
          go_wp2_with (first | (go_at_call 20; (with_reducible refine (C20' _ (hT.below HB.out)).mono ?_); rintro e w1 ⟨rfl, hb⟩; have m1_ := Aside0.mk (builder_below HI.out hb); have m2_ := Aside0.mk (HB.out.trans (hb.mono HB.out.size)); clear HI; clear HB; have HI := m1_; have HB := m2_; clear m1_ m2_ hb) | (go_at_call 15; (with_reducible refine (Tryd.Builder_WriteString_k w.heap.size w.heap.size _ ⟨c.1.toArray⟩ _ HI.out hlen15 HB.out.size).mono ?_); rintro e W1 ⟨rfl, hi, b1, _⟩; have m1_ := Aside0.mk (show Lib.IsBuilderF 31 5 w.heap.size w.heap.size (Lib.byteCells (acc ++ c.1)) _ by rw [Lib.byteCells_append]; exact Or.inr hi); have m2_ := Aside0.mk (HB.out.trans b1); clear HI; clear HB; have HI := m1_; have HB := m2_; clear m1_ m2_ hi b1) | (go_at_call 21; (with_reducible refine (C21' _ (hT.below HB.out)).mono ?_); rintro e w1 ⟨rfl, hb⟩; have m1_ := Aside0.mk (builder_below HI.out hb); have m2_ := Aside0.mk (HB.out.trans (hb.mono HB.out.size)); clear HI; clear HB; have HI := m1_; have HB := m2_; clear m1_ m2_ hb))
          go_ret2
          rw [hun]
          exact ⟨rfl, HB.out⟩
        | true =>
          rw [if_pos rfl] at hacc
          go_wp2_with (first | (go_at_call 20; (with_reducible refine (C20' _ (hT.below HB.out)).mono ?_); rintro e w1 ⟨rfl, hb⟩; have m1_ := Aside0.mk (builder_below HI.out hb); have m2_ := Aside0.mk (HB.out.trans (hb.mono HB.out.size)); clear HI; clear HB; have HI := m1_; have HB := m2_; clear m1_ m2_ hb) | (go_at_call 15; (with_reducible refine (Tryd.Builder_WriteString_k w.heap.size w.heap.size _ ⟨c.1.toArray⟩ _ HI.out hlen15 HB.out.size).mono ?_); rintro e W1 ⟨rfl, hi, b1, _⟩; have m1_ := Aside0.mk (show Lib.IsBuilderF 31 5 w.heap.size w.heap.size (Lib.byteCells (acc ++ c.1)) _ by rw [Lib.byteCells_append]; exact Or.inr hi); have m2_ := Aside0.mk (HB.out.trans b1); clear HI; clear HB; have HI := m1_; have HB := m2_; clear m1_ m2_ hi b1) | (go_at_call 21; (with_reducible refine (C21' _ (hT.below HB.out)).mono ?_); rintro e w1 ⟨rfl, hb⟩; have m1_ := Aside0.mk (builder_below HI.out hb); have m2_ := Aside0.mk (HB.out.trans (hb.mono HB.out.size)); clear HI; clear HB; have HI := m1_; have HB := m2_; clear m1_ m2_ hb) | (go_at_call 22; (with_reducible refine (Tryd.Builder_WriteRune_k w.heap.size w.heap.size _ r hr1 hr2 _ HI.out hlen22 HB.out.size).mono ?_); rintro e W1 ⟨rfl, hi, b1, _⟩; have m1_ := Aside0.mk (show Lib.IsBuilderF 31 5 w.heap.size w.heap.size (Lib.byteCells (acc ++ c.1 ++ Lib.encodeRune r)) _ by rw [Lib.byteCells_append, Lib.byteCells_encodeRune]; exact Or.inr hi); have m2_ := Aside0.mk (HB.out.trans b1); clear HI; clear HB; have HI := m1_; have HB := m2_; clear m1_ m2_ hi b1))
          go_roundw
          case rel => exact ⟨rest, acc ++ c.1 ++ Lib.encodeRune r, f, rfl, HI.out, HB.out, hacc, by omega, by omega, by simp only [List.length_append]; omega⟩
          case measure =>
            simp only [Lib.size_eq]
            omega
end Go.Proofs.YtenngdkgahngjaaDoor.All
