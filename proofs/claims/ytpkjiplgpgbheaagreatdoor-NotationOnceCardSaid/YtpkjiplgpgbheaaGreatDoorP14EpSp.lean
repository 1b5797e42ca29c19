/- What the layers of names, shapes, arrays, tight arrays, headers, functions, the system's variables and workspaces compute: plain functions. -/
import Derived.Test.YtpkjiplgpgbheaaGreatDoorP14EpDm
import Derived.Test.YtpkjiplgpgbheaaGreatDoorP14EpBa
set_option linter.unusedVariables false
set_option linter.unusedSimpArgs false
set_option linter.unusedSectionVars false
namespace Go.Proofs.YtpkjiplgpgbheaaGreatDoor.Sp
open Go.RowKit Go.Proofs.YtpkjiplgpgbheaaGreatDoor.Ba   Go.Proofs.YtpkjiplgpgbheaaGreatDoor.Dm Go.Proofs.YtpkjiplgpgbheaaGreatDoor.Ba Go.Lib
structure Dec where
  f0 : Int
  f1 : Int
structure Nd where
  f0 : Int
  f1 : List Int
  f2 : List Int
  f3 : List Dec
structure Ob where
  f0 : Int
  f1 : ByteArray
  f2 : List Nd
  f3 : List ByteArray
/-! ### Shapes -/
def badDim (n : Int) : Bool := decide (n < 0) || decide (n > 1048576)
def cntGo : List Int → Int → Int × Bool
  | [], n => (n, true)
  | k :: l, n => if badDim (n * k) then (0, false) else cntGo l (n * k)
def cnt (s : List Int) : Int × Bool := if s.length > 16 then (0, false) else if s.any badDim then (0, false) else if s.any (fun x => decide (x = 0)) then (0, true) else cntGo s 1
/-! ### Numbers -/
def rightB (d : Dec) : Bool := rightD d.f0 d.f1
def wholeB (d : Dec) : Int × Bool := whole d.f0 d.f1
def ofB (n : Int) : Dec := ⟨(normD n 0).1, (normD n 0).2.1⟩
def wfD (d : Dec) : Prop := I d.f0 ∧ I d.f1
/-! ### Nodes -/
def fitsB (k v : Int) : Bool := if k = 1 then (Go.bits .andNot .i64 v 1) == 0 else if k = 2 then true else if k = 3 then (if v = wrap64 (wrap32 v) then Lib.validRune (wrap32 v) else false) else false
def wants (k c : Int) : Option (Int × Int) := if k = 1 ∨ k = 2 ∨ k = 3 then some (c, 0) else if k = 4 then some (0, c) else if k = 5 then some (0, 0) else none
def items (n : Nd) : Int :=
  if (cnt n.f1).2 = false then -1 else
  match wants n.f0 (cnt n.f1).1 with
  | none => -1
  | some (i, d) => if (n.f2.length : Int) ≠ i then -1 else if (n.f3.length : Int) ≠ d then -1 else if n.f2.any (fun x => !fitsB n.f0 x) then -1 else if n.f3.any (fun x => !rightB x) then -1 else (cnt n.f1).1
/-- The numbers are of their kind, and the rows no longer than a row may be. -/
structure wfN (n : Nd) : Prop where
  k : I n.f0
  s : ∀ x ∈ n.f1, I x
  i : ∀ x ∈ n.f2, I x
  d : ∀ x ∈ n.f3, wfD x
  ls : n.f1.length ≤ 1099511627776
  li : n.f2.length ≤ 1099511627776
  ld : n.f3.length ≤ 1099511627776
theorem cntGo_le : ∀ (l : List Int) (n : Int), 0 ≤ n → n ≤ 1048576 → 0 ≤ (cntGo l n).1 ∧ (cntGo l n).1 ≤ 1048576
  | [], n, h0, h1 => ⟨h0, h1⟩
  | k :: l, n, h0, h1 => by
    unfold cntGo
    split
    · exact ⟨by decide, by decide⟩
    · rename_i h
      simp [badDim] at h
      exact cntGo_le l (n * k) h.1 h.2
theorem cnt_le (s : List Int) : 0 ≤ (cnt s).1 ∧ (cnt s).1 ≤ 1048576 := by
  unfold cnt
  repeat' split
  all_goals first | exact ⟨by decide, by decide⟩ | exact cntGo_le _ _ (by decide) (by decide)
/-! ### The walk through an array -/
def pops1 : Int → List Int → List Int
  | x, [] => if x = 0 then [] else [x]
  | x, y :: r => if x = 0 then pops1 (y - 1) r else x :: y :: r
def pops : List Int → List Int
  | [] => []
  | x :: l => pops1 x l
theorem pops_stop {x : Int} (l : List Int) (h : x ≠ 0) : pops (x :: l) = x :: l := by
  cases l <;> simp [pops, pops1, h]
theorem pops_one : pops [0] = [] := by simp [pops, pops1]
theorem pops_two (y : Int) (r : List Int) : pops (0 :: y :: r) = pops ((y - 1) :: r) := by simp [pops, pops1]
def push (n : Nd) (c : Int) (st : List Int) : List Int := if n.f0 = 5 then c :: st else match st with | [] => [] | y :: r => (y - 1) :: r
def walkL : List Nd → Int → Int → Int → List Int → Int × Int × Int
  | [], _, _, _, _ => (0, 0, 0)
  | n :: a, k, all, deep, st =>
    if items n < 0 ∨ all + items n > 1048576 ∨ st.length ≥ 16 then (0, 0, 0)
    else if pops (push n (items n) st) = [] then (k + 1, all + items n, max deep ((st.length : Int) + 1)) else walkL a (k + 1) (all + items n) (max deep ((st.length : Int) + 1)) (pops (push n (items n) st))
def walk (a : List Nd) : Int × Int × Int := walkL a 0 0 0 []
theorem items_le (n : Nd) : -1 ≤ items n ∧ items n ≤ 1048576 := by
  have := cnt_le n.f1
  unfold items
  repeat' split
  all_goals omega
def Ge1 (st : List Int) : Prop := ∀ y ∈ st, 1 ≤ y ∧ y ≤ 1048576
def takeL (a : List Nd) : Int := (walk a).1
def rightL (a : List Nd) : Bool := decide (0 < a.length) && decide (takeL a = a.length)
end Go.Proofs.YtpkjiplgpgbheaaGreatDoor.Sp
