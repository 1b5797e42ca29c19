/- What the layers of names, headers, functions, the system's variables and workspaces compute: plain functions. -/
import Derived.Test.YtpkjiplgpgbheaaGreatDoorP14EpSp2
import Derived.Test.YtpkjiplgpgbheaaGreatDoorP14EpFo3
import GoSem.Core.Utf8
import Derived.Lib.RuneCount
import Derived.Lib.ValidU
set_option linter.unusedVariables false
set_option linter.unusedSimpArgs false
set_option linter.unusedSectionVars false
namespace Go.Proofs.YtpkjiplgpgbheaaGreatDoor.Sp
open Go.RowKit Go.Proofs.YtpkjiplgpgbheaaGreatDoor.Ba  Go.Proofs.YtpkjiplgpgbheaaGreatDoor.Dm Go.Proofs.YtpkjiplgpgbheaaGreatDoor.Ba Go.Lib
/-! ### Texts -/
abbrev seq (a b : ByteArray) : Bool := a.toList == b.toList
abbrev e0 : ByteArray := ⟨#[]⟩
def hasP (s t : ByteArray) : Bool := decide (t.size ≤ s.size) && seq (s.extract 0 t.size) t
def cutP (s t : ByteArray) : ByteArray × Bool := (⟨(Lib.trimPrefix s.data.toList t.data.toList).toArray⟩, Lib.hasPrefix s.data.toList t.data.toList)
/-! ### Names -/
def beginsB (c : Int) : Bool := (decide (c ≥ 65) && decide (c ≤ 90)) || ((decide (c ≥ 97) && decide (c ≤ 122)) || (c == 95 || (c == 8710 || c == 9049)))
def goesB (c : Int) : Bool := beginsB c || ((decide (c ≥ 48) && decide (c ≤ 57)) || c == 175)
def takeGo (s : ByteArray) : Nat → Nat → ByteArray × ByteArray
  | 0, _ => (s, e0)
  | f + 1, p => if p < s.size then (if p = 0 ∧ beginsB (Utf8.decode s p).1 = false then (e0, s) else if goesB (Utf8.decode s p).1 = false then (s.extract 0 p, s.extract p s.size) else takeGo s f (p + (Utf8.decode s p).2)) else (s, e0)
def takeN (s : ByteArray) : ByteArray × ByteArray := takeGo s (s.size + 1) 0
/-! ### Headers -/
structure Hd where
  result : ByteArray
  left : ByteArray
  name : ByteArray
  right : ByteArray
  f : ByteArray
  g : ByteArray
  locals : List ByteArray
abbrev tGets : ByteArray := ⟨#[226, 134, 144]⟩
abbrev tGap : ByteArray := ⟨#[32]⟩
abbrev tOpen : ByteArray := ⟨#[40]⟩
abbrev tEnd : ByteArray := ⟨#[41]⟩
abbrev tLocal : ByteArray := ⟨#[59]⟩
def operB (l : ByteArray) (h : Hd) : Hd × ByteArray :=
  let f := (takeN l).1
  let l1 := (cutP (takeN l).2 tGap).1
  let n := (takeN l1).1
  let c := cutP (takeN l1).2 tGap
  let g := if c.2 = true then (takeN c.1).1 else h.g
  let l2 := if c.2 = true then (takeN c.1).2 else c.1
  (⟨h.result, h.left, n, h.right, f, g, h.locals⟩, (cutP l2 tEnd).1)
def localsB : Nat → ByteArray → List ByteArray → List ByteArray × ByteArray
  | 0, l, acc => (acc, l)
  | k + 1, l, acc => if (cutP l tLocal).2 = true then localsB k (takeN (cutP l tLocal).1).2 (acc ++ [(takeN (cutP l tLocal).1).1]) else (acc, (cutP l tLocal).1)
/-- What stands ahead of the arguments: the header so far, what is left. -/
def head1 (s : ByteArray) : Hd × ByteArray :=
  let w := takeN s
  let c := cutP w.2 tGets
  let res := if c.2 = true then w.1 else e0
  let first := if c.2 = true then (takeN c.1).1 else w.1
  let l := if c.2 = true then (takeN c.1).2 else c.1
  let h : Hd := ⟨res, e0, e0, e0, e0, e0, []⟩
  if seq first e0 = true ∧ (cutP l tOpen).2 = true then operB (cutP l tOpen).1 h
  else if (cutP l (tGap ++ tOpen)).2 = true then operB (cutP l (tGap ++ tOpen)).1 ⟨res, first, e0, e0, e0, e0, []⟩
  else (⟨res, e0, first, e0, e0, e0, []⟩, l)
def head2 (p : Hd × ByteArray) : Hd × ByteArray :=
  let c := cutP p.2 tGap
  let h1 : Hd := if c.2 = true then ⟨p.1.result, p.1.left, p.1.name, (takeN c.1).1, p.1.f, p.1.g, p.1.locals⟩ else p.1
  let l1 := if c.2 = true then (takeN c.1).2 else c.1
  if seq h1.f e0 = true then
    let c := cutP l1 tGap
    if c.2 = true then (⟨h1.result, h1.name, h1.right, (takeN c.1).1, h1.f, h1.g, h1.locals⟩, (takeN c.1).2) else (h1, c.1)
  else (h1, l1)
def head3 (s : ByteArray) : Hd × ByteArray :=
  let p := head2 (head1 s)
  let q := localsB (p.2.size + 1) p.2 []
  (⟨p.1.result, p.1.left, p.1.name, p.1.right, p.1.f, p.1.g, q.1⟩, q.2)
/-! ### Functions -/
/-! ### Tight arrays -/
noncomputable def treeOf (a : List Nd) (h : rightL a = true) : Nd × Fo := ⟨(right_tree h).choose, (right_tree h).choose_spec.choose⟩
noncomputable def makeL (a : List Nd) : List Nd × Bool := if h : rightL a = true then (form (treeOf a h).1 (treeOf a h).2, true) else ([], false)
open Classical in
noncomputable def tightR (a : List Nd) : Bool := (makeL a).2 && decide (a = (makeL a).1)
end Go.Proofs.YtpkjiplgpgbheaaGreatDoor.Sp
