/- The small case of rows of numbers; lists read elementwise. -/
import Derived.Test.YtbbonbhammfpjaaDoorAll6
import Derived.Test.YtbbonbhammfpjaaDoorNuP
import Derived.KernelRfl
namespace Go.Proofs.YtbbonbhammfpjaaDoor.Pure
open Go.RowKit Go.Proofs.YtbbonbhammfpjaaDoorW.PrintWords Go.Proofs.YtbbonbhammfpjaaDoor.All Go.Proofs.YtbbonbhammfpjaaDoor.Dm Go.Proofs.YtbbonbhammfpjaaDoor.Ba Go.Proofs.YtbbonbhammfpjaaDoor.De Go.Proofs.YtbbonbhammfpjaaDoor.Nu Go.Proofs.YtbbonbhammfpjaaDoor.NuP Go.Lib

theorem small_ev : Ev (fun k => decklelaw12_small.f k) true := Ev.of decklelaw12_small.mono (show decklelaw12_small.f 60 = some true by kernel_rfl)
def fstR (q : Option (List (Int × Int) × List UInt8)) : List (Int × Int) := match q with
  | some (l, _) => l
  | none => []
theorem resR_nil (q : Option (List (Int × Int) × List UInt8)) : resR q [] = ((fstR q).map toS, ba (match q with | some (_, r) => r | none => []), q.isSome) := by
  cases q with
  | none => rfl
  | some q => rfl
theorem fstR_len : ∀ (n : Nat) (s : List UInt8), s.length ≤ n → (fstR (readL s)).length ≤ s.length := by
  intro n
  induction n with
  | zero =>
    intro s hs
    obtain rfl : s = [] := List.eq_nil_of_length_eq_zero (by omega)
    rw [readL_none (by exact readN_nil)]
    exact Nat.le_refl _
  | succ n ih =>
    intro s hs
    rcases readN_or (s.take (pieces s)) with h1 | ⟨m, e, h1⟩
    · rw [readL_none h1]
      exact Nat.zero_le _
    · have hpos : pieces s ≠ 0 := by
        intro k0
        rw [k0, List.take_zero] at h1
        have := readN_nil
        rw [h1] at this
        cases this
      have hle := pieces_le s
      cases hg : goesOn (s.drop (pieces s)) with
      | false =>
        rw [readL_stop h1 hg]
        show 1 ≤ s.length
        omega
      | true =>
        obtain ⟨l, hl, hp⟩ := goesOn_cons hg
        have hlt := rest_lt hl
        rw [readL_go h1 hg, hl, List.drop_one, List.tail_cons]
        have := ih l (by omega)
        cases hq : readL l with
        | none => exact Nat.zero_le _
        | some q =>
          rw [hq] at this
          show (_ :: q.1).length ≤ s.length
          have h3 : (fstR (some q)).length = q.1.length := rfl
          rw [List.length_cons]
          omega
theorem rdT_at (l : List S28) (i : Nat) (h : i < l.length) : rd_T28 l (i : Int) = l[i] := by
  unfold rd_T28
  rw [Int.toNat_natCast, List.getD_eq_getElem?_getD, List.getElem?_eq_getElem h]
  rfl
theorem rd_at (l : List Int) (i : Nat) (h : i < l.length) : rd l (i : Int) = l[i] := by
  unfold rd
  rw [Int.toNat_natCast, List.getD_eq_getElem?_getD, List.getElem?_eq_getElem h]
  rfl
theorem same_no (a b c d : Int) (h1 : a = c) (h2 : b = d) : ¬ ((!(a == c) || !(b == d)) = true) := by
  subst h1 h2
  simp
end Go.Proofs.YtbbonbhammfpjaaDoor.Pure
