/- Rows of numbers, as plain mathematics: what is written, what is read. -/
import Derived.Test.YtpkjiplgpgbheaaGreatDoorP14EpNu
import Derived.Test.YtpkjiplgpgbheaaGreatDoorP14EpSp
set_option linter.unusedVariables false
set_option linter.unusedSimpArgs false
set_option linter.unusedSectionVars false
namespace Go.Proofs.YtpkjiplgpgbheaaGreatDoor.NuP
set_option linter.unusedVariables false
open Go.RowKit Go.Proofs.YtpkjiplgpgbheaaGreatDoor.Dm Go.Proofs.YtpkjiplgpgbheaaGreatDoor.Ba Go.Proofs.YtpkjiplgpgbheaaGreatDoor.De Go.Proofs.YtpkjiplgpgbheaaGreatDoor.Nu Go.Lib
theorem itoa_len {n : Int} (h : I n) : (itoa n).length ≤ 20 := by
  have h1 := digits_len h
  unfold itoa
  split
  · simp only [List.length_cons]; omega
  · have e : n.natAbs = n.toNat := by omega
    rw [← e]; omega
theorem indexByte_mem (c : UInt8) : ∀ l : List UInt8, (0 ≤ indexByte l c) = (c ∈ l)
  | [] => by simp [indexByte]
  | b :: l => by
    have ih := indexByte_mem c l
    have hn : indexByte l c = -1 ∨ 0 ≤ indexByte l c := by
      have : ∀ l : List UInt8, indexByte l c = -1 ∨ 0 ≤ indexByte l c := by
        intro l
        induction l with
        | nil => left; rfl
        | cons b l ih =>
          unfold indexByte
          split
          · right; decide
          · split
            · left; rfl
            · right; simp_all; omega
      exact this l
    unfold indexByte
    by_cases h : b = c
    · subst h; simp
    · have h2 : ¬ (c = b) := fun k => h k.symm
      simp only [List.mem_cons, h2, false_or, ← ih]
      rcases hn with k | k
      · rw [k]; simp [h]
      · have k2 : ¬ (indexByte l c = -1) := by omega
        simp [h, k2]
        omega
theorem digE_mem (c : UInt8) : (c ∈ ([48, 49, 50, 51, 52, 53, 54, 55, 56, 57, 69] : List UInt8)) = (digE c = true) := by
  have e : ∀ d : UInt8, (c = d) ↔ (c.toNat = d.toNat) := fun d => ⟨fun k => by rw [k], fun k => UInt8.toNat.inj k⟩
  unfold digE
  simp only [List.mem_cons, List.not_mem_nil, or_false, e, Bool.or_eq_true, Bool.and_eq_true, decide_eq_true_eq, beq_iff_eq, eq_iff_iff]
  all_goals first | done | (simp; omega)
theorem hasPrefix_minus (c : UInt8) (l : List UInt8) : hasPrefix (c :: l) [194, 175] = true ↔ c = 194 ∧ l.head? = some 175 := by
  unfold hasPrefix
  cases l with
  | nil => simp [List.isPrefixOf]
  | cons d l =>
    simp [List.isPrefixOf]
    exact ⟨fun h => ⟨h.1.symm, h.2.symm⟩, fun h => ⟨h.1.symm, h.2.symm⟩⟩
theorem repM_len (s : List UInt8) : (repM s).length ≤ s.length := by
  unfold repM
  have hg := index_ge s [194, 175]
  by_cases h : index s [194, 175] = -1
  · rw [replace_miss (by decide) h]; exact Nat.le_refl _
  · obtain ⟨i, hi⟩ : ∃ i : Nat, index s [194, 175] = i := ⟨(index s [194, 175]).toNat, by omega⟩
    have hr := index_room s [194, 175] (by omega)
    rw [replace_hit (by decide) (by simp) hi]
    simp at hr ⊢
    omega
def toS (p : Int × Int) : Sp.Dec := ⟨p.1, p.2⟩
def resR (q : Option (List (Int × Int) × List UInt8)) (out : List Sp.Dec) : List Sp.Dec × ByteArray × Bool := match q with
  | some (l, r) => (out ++ l.map toS, ba r, true)
  | none => ([], ba [], false)
theorem goesOn_eq (b : List UInt8) : goesOn b = true ↔ b.head? = some 32 ∧ pieces (b.drop 1) ≠ 0 := by
  unfold goesOn
  simp
theorem take_nil {l : List UInt8} : l.take (pieces l) = [] ↔ pieces l = 0 := by
  have := pieces_le l
  constructor
  · intro h
    have h2 := congrArg List.length h
    rw [List.length_take, List.length_nil] at h2
    omega
  · intro h; rw [h]; rfl
theorem join_nil : join [] [32] = [] := rfl
theorem join_len (B : Nat) : ∀ (ts : List (List UInt8)), (∀ t ∈ ts, t.length ≤ B) → (join ts [32]).length ≤ (B + 1) * ts.length
  | [], _ => by rw [join_nil]; simp
  | [t], h => by
    rw [Nu.join_one]
    have := h t (List.mem_singleton_self t)
    simp
    omega
  | t :: u :: ts, h => by
    have ih := join_len B (u :: ts) (fun x hx => h x (List.mem_cons_of_mem _ hx))
    have h0 := h t (List.mem_cons_self)
    rw [join_cons2, List.length_append, List.length_cons, List.length_cons (a := t), Nat.mul_add]
    omega
def intsL (l : List Int) : List UInt8 := join (l.map numL) [32]
def rightS (x : Sp.Dec) : Prop := isRight x.f0 x.f1
instance (x : Sp.Dec) : Decidable (rightS x) := by unfold rightS; infer_instance
def textS (x : Sp.Dec) : List UInt8 := textL x.f0 x.f1
def decsL (l : List Sp.Dec) : List UInt8 := if ∀ x ∈ l, rightS x then join (l.map textS) [32] else []
end Go.Proofs.YtpkjiplgpgbheaaGreatDoor.NuP
