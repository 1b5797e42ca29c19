/- What the layer of tight arrays computes: plain functions. -/
import Derived.Test.YtpkjiplgpgbheaaGreatDoorP14EpSp
set_option linter.unusedVariables false
set_option linter.unusedSimpArgs false
set_option linter.unusedSectionVars false
namespace Go.Proofs.YtpkjiplgpgbheaaGreatDoor.Sp
open Go.RowKit Go.Proofs.YtpkjiplgpgbheaaGreatDoor.Ba  Go.Proofs.YtpkjiplgpgbheaaGreatDoor.Dm Go.Proofs.YtpkjiplgpgbheaaGreatDoor.Ba Go.Lib
def wholeL : List Dec → List Int → List Int × Bool
  | [], acc => (acc, true)
  | d :: l, acc => if (wholeB d).2 = true then wholeL l (acc ++ [(wholeB d).1]) else ([], false)
def numsOf (n : Nd) : List Dec := if n.f0 = 4 then n.f3 else n.f2.map ofB
def great (n : Int) : Bool := (Go.bits .andNot .i64 n 1) != 0
def zN : Nd := ⟨0, [], [], []⟩
def numbersL (s : List Int) (l : List Dec) : Nd × Bool :=
  if (cnt s).2 = false then (zN, false) else if (cnt s).1 ≠ l.length then (zN, false) else if l.any (fun d => !rightB d) then (zN, false)
  else if (wholeL l []).2 = false then (⟨4, s, [], l⟩, true)
  else if l.length > 0 ∧ (wholeL l []).1.any great = false then (⟨1, s, (wholeL l []).1, []⟩, true) else (⟨2, s, (wholeL l []).1, []⟩, true)
theorem wholeL_len : ∀ (l : List Dec) (acc : List Int), (wholeL l acc).1.length ≤ acc.length + l.length
  | [], acc => by simp [wholeL]
  | d :: l, acc => by
    unfold wholeL
    split
    · have := wholeL_len l (acc ++ [(wholeB d).1])
      simp at this ⊢
      omega
    · simp
end Go.Proofs.YtpkjiplgpgbheaaGreatDoor.Sp
