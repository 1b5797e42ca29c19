/- Arrays as texts, as plain functions: signs in quotes, what is written, what is read. -/
import Derived.Test.YtpkjiplgpgbheaaGreatDoorP14EpNuP
import Derived.Test.YtpkjiplgpgbheaaGreatDoorP14EpSp4
import Derived.Lib.RuneBytes
set_option linter.unusedVariables false
set_option linter.unusedSimpArgs false
set_option linter.unusedSectionVars false
namespace Go.Proofs.YtpkjiplgpgbheaaGreatDoor.Nt
set_option linter.unusedVariables false
open Go.RowKit Go.Proofs.YtpkjiplgpgbheaaGreatDoor.Sp Go.Proofs.YtpkjiplgpgbheaaGreatDoor.Ba Go.Proofs.YtpkjiplgpgbheaaGreatDoor.Nu Go.Proofs.YtpkjiplgpgbheaaGreatDoor.NuP
abbrev tMark : ByteArray := ⟨#[39]⟩
abbrev tAlone : ByteArray := ⟨#[226, 138, 130]⟩
abbrev tReach : ByteArray := ⟨#[226, 141, 180]⟩
abbrev tNone : ByteArray := ⟨#[48]⟩

/-! ### Signs -/
/-- A sign between quotes. -/
def qcell (c : Int) : List UInt8 := if c = 39 then [39, 39] else Lib.encodeRune c
def qtext (l : List Int) : List UInt8 := (l.map qcell).flatten
def textQ (l : List Int) : ByteArray × Bool := if l.all Lib.validRune then (ba (39 :: (qtext l ++ [39])), true) else (e0, false)
/-- Where signs end that begin at once. -/
def endsL : List UInt8 → Nat → Int
  | [], _ => -1
  | [c], k => if c = 39 then k else -1
  | c :: d :: l, k => if c = 39 then (if d = 39 then endsL l (k + 2) else k) else endsL (d :: l) (k + 1)
def runesG (s : ByteArray) : Nat → Nat → List Int
  | 0, _ => []
  | f + 1, p => if p < s.size then (Utf8.decode s p).1 :: runesG s f (p + (Utf8.decode s p).2) else []
def runesL (s : ByteArray) : List Int := runesG s (s.size + 1) 0
def halve (s : ByteArray) : ByteArray := ba (Lib.replace s.data.toList [39, 39] [39] (-1))
def readQ2 (r : ByteArray × Bool) (e : Int) : List Int × ByteArray × Bool :=
  if r.2 = false then ([], e0, false) else if e < 0 then ([], e0, false) else
  if Lib.validD (r.1.extract 0 e.toNat).data.toList = false then ([], e0, false) else
  (runesL (halve (r.1.extract 0 e.toNat)), r.1.extract (e.toNat + 1) r.1.size, true)
def readQ (s : ByteArray) : List Int × ByteArray × Bool := readQ2 (cutP s tMark) (endsL (cutP s tMark).1.data.toList 0)

/-! ### What is written -/
def valueN (n : Nd) : List UInt8 := if n.f0 = 3 then (textQ n.f2).1.data.toList else if n.f0 = 4 then decsL n.f3 else if n.f2.length = 0 then [48] else intsL n.f2
/-- What stands ahead of a node's value, or its kids. -/
def headN (n : Nd) : List UInt8 := if 0 < n.f1.length then intsL n.f1 ++ [226, 141, 180] else if n.f0 = 5 then [226, 138, 130] else []
def kidsF : Fo → List UInt8
  | .nil => []
  | .node n k s => 40 :: ((headN n ++ (if n.f0 = 5 then kidsF k else valueN n)) ++ 41 :: kidsF s)
def textT (n : Nd) (k : Fo) : List UInt8 := headN n ++ (if n.f0 = 5 then kidsF k else valueN n)
theorem kidsF_node (n : Nd) (k s : Fo) : kidsF (.node n k s) = 40 :: (textT n k ++ 41 :: kidsF s) := rfl
/-! ### What is read -/
abbrev Res := List Nd × ByteArray × Bool
def readNP (l : ByteArray) : List Dec × ByteArray × Bool := resR (readL l.data.toList) []
/-- So many arrays in parentheses; 'arr' reads one. -/
def kidsP (arr : ByteArray → Res) (more : Bool) : Nat → ByteArray → Bool → Res
  | 0, l, ok => ([], l, ok)
  | c + 1, l, ok =>
    if ok = false then ([], l, false) else
    if more = false then ([], l, false) else
    if (cutP l tOpen).2 = false then ([], l, false) else
    let a := arr (cutP l tOpen).1
    if a.2.2 = false then (a.1, a.2.1, false) else
    let r := kidsP arr more c (cutP a.2.1 tEnd).1 (cutP a.2.1 tEnd).2
    (a.1 ++ r.1, r.2)
def itemsP (arr : ByteArray → Res) (more : Bool) (s : List Int) (l : ByteArray) (ok : Bool) : Res :=
  if (ok && (cnt s).2) = false then ([], l, false) else
  if hasP l tMark = true then ([⟨3, s, (readQ l).1, []⟩], (readQ l).2.1, (readQ l).2.2 && decide (((readQ l).1.length : Int) = (cnt s).1)) else
  if hasP l tOpen = true then (⟨5, s, [], []⟩ :: (kidsP arr more (cnt s).1.toNat l true).1, (kidsP arr more (cnt s).1.toNat l true).2) else
  if (cnt s).1 = 0 then ([⟨2, s, [], []⟩], (cutP l tNone).1, (cutP l tNone).2) else
  ([(numbersL s (readNP l).1).1], (readNP l).2.1, (readNP l).2.2 && (numbersL s (readNP l).1).2)
def sideP (ds : List Dec) : List Int := ds.map fun d => (wholeB d).1
def sideB (ds : List Dec) : Bool := ds.all fun d => (wholeB d).2
def arrayP : Nat → ByteArray → Res
  | 0, l => ([], l, false)
  | d + 1, l =>
    if (cutP l tAlone).2 = true then (⟨5, [], [], []⟩ :: (kidsP (arrayP d) (decide (0 < d)) 1 (cutP l tAlone).1 true).1, (kidsP (arrayP d) (decide (0 < d)) 1 (cutP l tAlone).1 true).2) else
    if ((readNP l).2.2 && (cutP (readNP l).2.1 tReach).2) = true then itemsP (arrayP d) (decide (0 < d)) (sideP (readNP l).1) (cutP (readNP l).2.1 tReach).1 (sideB (readNP l).1)
    else itemsP (arrayP d) (decide (0 < d)) [] l true
end Go.Proofs.YtpkjiplgpgbheaaGreatDoor.Nt
