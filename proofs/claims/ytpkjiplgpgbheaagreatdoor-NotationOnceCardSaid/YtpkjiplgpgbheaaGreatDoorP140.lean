/- What the laws lean on, part 0: texts of this claim, merged and cut to what is used. -/
import Derived.Below
import Derived.Calls
import Derived.Deep.LoopGhost
import Derived.Laws.Cells
import Derived.Laws.MakeOwn
import Derived.Laws.OwnMore
import Derived.Laws.Slices
import Derived.Laws.StructEq
import Derived.Lib.AppendStr
import Derived.Orders
import Derived.Scope
import GoSem.Core.Utf8
set_option linter.unusedVariables false
set_option linter.unusedSimpArgs false
set_option linter.unusedSectionVars false
namespace Go.Proofs.Ev
open Go Go.RowKit
set_option linter.unusedVariables false
set_option linter.unusedSimpArgs false
/-- The name of a block: one that this call made, at a slot; one that was handed in. -/
inductive Id where
  | loc (n k : Nat)
  | ext (k : Nat)
  deriving DecidableEq
/-- Values as the text sees them: what is only read stands in the value itself; what may be written is named. -/
inductive PV where
  | int (k : IntKind) (n : Int)
  | bool (b : Bool)
  | str (s : ByteArray)
  | nilp
  | nils
  | re
  | nili
  | nilf
  | fn (f : Nat) (caps : List PV)
  | ptr (b : Id) (v i o : Nat)
  | rp (row : List PV) (o : Nat)
  | ro (rows : List (List PV))
  | own (b : Id) (v n : Nat)
  | it (b : Id) (v : Nat)
  | agg (cs : List PV)
  | tup (vs : List PV)
  | ife
  | ifc (t : Nat) (x : PV)
  | dead
  deriving Inhabited
/-- One cell's value. -/
def PV.one : PV → Bool
  | .agg _ => false
  | .tup _ => false
  | .dead => false
  | _ => true
/-- One cell's value that names no block. -/
def PV.sf : PV → Bool
  | .int _ _ => true
  | .bool _ => true
  | .str _ => true
  | .nilp => true
  | .nils => true
  | .re => true
  | .nili => true
  | .nilf => true
  | .ro _ => true
  | .fn _ [] => true
  | .ife => true
  | _ => false
/-- What a block holds: rows of cells, the rows of an element's size each; a text that is ranged over. -/
inductive Cont where
  | rows (fl : Bool) (e sz : Nat) (rs : List (List PV))
  | iter (s : ByteArray) (pos : Nat)
structure Blk where
  ver : Nat
  live : Option Cont
structure St where
  t : Nat → PV
  m : Id → Blk
/-- Where things lie. -/
structure Cx where
  w : World
  base : Nat
  mu : Nat → Prop
  at_ : Id → Option (Nat × Nat)
  sz : Id → Nat
  ver : Id → Nat
inductive RelV (c : Cx) : PV → Value → Prop where
  | int (k n) : RelV c (.int k n) (.int k n)
  | bool (b) : RelV c (.bool b) (.bool b)
  | str (s) : RelV c (.str s) (.string s)
  | nilp : RelV c .nilp (.pointer none)
  | nils : RelV c .nils (.slice none 0 0)
  | re (ad : Addr) (cap : Nat) : RelV c .re (.slice (some ad) 0 cap)
  | nili : RelV c .nili .nilIface
  | nilf : RelV c .nilf .nilFunc
  | fn (f : Nat) (caps : List PV) (us : List Value) (hl : caps.length = us.length) (h : ∀ (i : Nat) (x : PV) (u : Value), caps[i]? = some x → us[i]? = some u → RelV c x u) : RelV c (.fn f caps) (.func (.func f) #[] us.toArray)
  | ptr (b v i o u) (h1 : u.oneCell' = true) (hv : v ≤ c.ver b) (h : v = c.ver b → ∃ g cap, c.at_ b = some (g, cap) ∧ u = .pointer (some ⟨g, i * c.sz b + o, none⟩)) : RelV c (.ptr b v i o) u
  | rp (row : List PV) (o : Nat) (ad : Addr) (f : Nat → Value) (hs : ad.spot = none) (hm : ¬ c.mu ad.block) (hf : ∀ (j : Nat) (x : PV), row[j]? = some x → x.sf = true) (hb : ad.block < c.w.heap.size)
      (hc : ∀ (j : Nat) (x : PV), row[j]? = some x → c.w.cell? ⟨ad.block, ad.off + j, none⟩ = some (f j)) (h : ∀ (j : Nat) (x : PV), row[j]? = some x → RelV c x (f j)) : RelV c (.rp row o) (.pointer (some ⟨ad.block, ad.off + o, none⟩))
  | ro (rows : List (List PV)) (A : Option Addr) (cap sz : Nat) (f : Nat → Nat → Value) (hn : rows.length ≤ cap) (hA : A = none → rows = [] ∧ cap = 0) (hz : ∀ (i : Nat) (row : List PV), rows[i]? = some row → row.length = sz)
      (hb : ∀ ad, A = some ad → rows ≠ [] → ad.spot = none ∧ ¬ c.mu ad.block ∧ ad.block < c.w.heap.size) (hf : ∀ (i : Nat) (row : List PV) (j : Nat) (x : PV), rows[i]? = some row → row[j]? = some x → x.sf = true)
      (hc : ∀ (ad : Addr) (i : Nat) (row : List PV) (j : Nat) (x : PV), A = some ad → rows[i]? = some row → row[j]? = some x → c.w.cell? ⟨ad.block, ad.off + (i * sz + j), none⟩ = some (f i j))
      (h : ∀ (i : Nat) (row : List PV) (j : Nat) (x : PV), rows[i]? = some row → row[j]? = some x → RelV c x (f i j)) : RelV c (.ro rows) (.slice A rows.length cap)
  | own (b v n u) (h1 : u.oneCell' = true) (hv : v ≤ c.ver b) (h : v = c.ver b → (c.at_ b = none ∧ n = 0 ∧ u = .slice none 0 0) ∨ ∃ g cap, c.at_ b = some (g, cap) ∧ n ≤ cap ∧ u = .slice (some ⟨g, 0, none⟩) n cap) : RelV c (.own b v n) u
  | it (b v u) (h1 : u.oneCell' = true) (hv : v ≤ c.ver b) (h : v = c.ver b → ∃ g cap, c.at_ b = some (g, cap) ∧ u = .pointer (some ⟨g, 0, none⟩)) : RelV c (.it b v) u
  | agg (cs : List PV) (us : List Value) (hl : cs.length = us.length) (h : ∀ (i : Nat) (x : PV) (u : Value), cs[i]? = some x → us[i]? = some u → RelV c x u) : RelV c (.agg cs) (.agg us.toArray)
  | tup (cs : List PV) (us : List Value) (hl : cs.length = us.length) (h : ∀ (i : Nat) (x : PV) (u : Value), cs[i]? = some x → us[i]? = some u → RelV c x u) : RelV c (.tup cs) (.tuple us.toArray)
  | ife (t u) : RelV c .ife (.iface t u)
  | ifc (t x u) (h : RelV c x u) : RelV c (.ifc t x) (.iface t u)
  | dead (u) : RelV c .dead u
/-- Later than: what may not be written is as it was; names hold what they held, or have a later number. -/
structure Cx.le (c d : Cx) : Prop where
  base : c.base = d.base
  size : c.w.heap.size ≤ d.w.heap.size
  kept : ∀ k, k < c.w.heap.size → ¬ c.mu k → ¬ d.mu k ∧ d.w.heap[k]? = c.w.heap[k]?
  ver : ∀ b, c.ver b ≤ d.ver b
  same : ∀ b, c.ver b = d.ver b → d.at_ b = c.at_ b ∧ d.sz b = c.sz b
theorem cell_kept {w w' : World} {k o : Nat} (h : w'.heap[k]? = w.heap[k]?) : w'.cell? ⟨k, o, none⟩ = w.cell? ⟨k, o, none⟩ := by
  unfold World.cell?
  simp only [h]
theorem Cx.le.refl (c : Cx) : c.le c := ⟨rfl, Nat.le_refl _, fun _ _ h => ⟨h, rfl⟩, fun _ => Nat.le_refl _, fun _ _ => ⟨rfl, rfl⟩⟩
theorem Cx.le.trans {c d e : Cx} (h : c.le d) (k : d.le e) : c.le e where
  base := h.base.trans k.base
  size := Nat.le_trans h.size k.size
  kept := fun x hx hm => by
    obtain ⟨a, b⟩ := h.kept x hx hm
    obtain ⟨p, q⟩ := k.kept x (Nat.lt_of_lt_of_le hx h.size) a
    exact ⟨p, q.trans b⟩
  ver := fun b => Nat.le_trans (h.ver b) (k.ver b)
  same := fun b hb => by
    have h1 := h.ver b
    have h2 := k.ver b
    obtain ⟨a1, a2⟩ := h.same b (by omega)
    obtain ⟨b1, b2⟩ := k.same b (by omega)
    exact ⟨b1.trans a1, b2.trans a2⟩
theorem RelV.le {c d : Cx} (hle : c.le d) {x : PV} {u : Value} (h : RelV c x u) : RelV d x u := by
  induction h with
  | int k n => exact .int k n
  | bool b => exact .bool b
  | str s => exact .str s
  | nilp => exact .nilp
  | nils => exact .nils
  | re ad cap => exact .re ad cap
  | nili => exact .nili
  | nilf => exact .nilf
  | fn f caps us hl h ih => exact .fn f caps us hl ih
  | agg cs us hl h ih => exact .agg cs us hl ih
  | tup cs us hl h ih => exact .tup cs us hl ih
  | ife t u => exact .ife t u
  | ifc t x u h ih => exact .ifc t x u ih
  | dead u => exact .dead u
  | ptr b v i o u h1 hv h =>
    refine .ptr b v i o u h1 (Nat.le_trans hv (hle.ver b)) (fun e => ?_)
    have := hle.ver b
    obtain ⟨g, cap, h3, h2⟩ := h (by omega)
    obtain ⟨s1, s2⟩ := hle.same b (by omega)
    exact ⟨g, cap, s1.trans h3, by rw [s2]; exact h2⟩
  | it b v u h1 hv h =>
    refine .it b v u h1 (Nat.le_trans hv (hle.ver b)) (fun e => ?_)
    have := hle.ver b
    obtain ⟨g, cap, h3, h2⟩ := h (by omega)
    obtain ⟨s1, s2⟩ := hle.same b (by omega)
    exact ⟨g, cap, s1.trans h3, h2⟩
  | own b v n u h1 hv h =>
    refine .own b v n u h1 (Nat.le_trans hv (hle.ver b)) (fun e => ?_)
    have := hle.ver b
    obtain ⟨s1, s2⟩ := hle.same b (by omega)
    rcases h (by omega) with ⟨h4, h2, h3⟩ | ⟨g, cap, h4, h2, h3⟩
    · exact .inl ⟨s1.trans h4, h2, h3⟩
    · exact .inr ⟨g, cap, s1.trans h4, h2, h3⟩
  | rp row o ad f hs hm hf hb hc h ih =>
    obtain ⟨k1, k2⟩ := hle.kept _ hb hm
    exact .rp row o ad f hs k1 hf (Nat.lt_of_lt_of_le hb hle.size) (fun j x hx => (cell_kept k2).trans (hc j x hx)) ih
  | ro rows A cap sz f hn hA hz hb hf hc h ih =>
    refine .ro rows A cap sz f hn hA hz (fun ad e hne => ?_) hf (fun ad i row j x e h1 h2 => ?_) ih
    · obtain ⟨s, m, l⟩ := hb ad e hne
      exact ⟨s, (hle.kept _ l m).1, Nat.lt_of_lt_of_le l hle.size⟩
    · obtain ⟨s, m, l⟩ := hb ad e (by rintro rfl; simp at h1)
      exact (cell_kept (hle.kept _ l m).2).trans (hc ad i row j x e h1 h2)
/-- The frame: what is none of ours is as it was when the call began. -/
structure Fr (base : Nat) (foot : Nat → Prop) (w w' : World) : Prop where
  os : w'.os = w.os
  tape : w'.tape = w.tape
  output : w'.output = w.output
  size : w.heap.size ≤ w'.heap.size
  block : ∀ k, k < base → ¬ foot k → w'.heap[k]? = w.heap[k]?
theorem Fr.below {base : Nat} {w w' : World} (h : Fr base (fun _ => False) w w') : Below base w w' := ⟨h.os, h.tape, h.output, h.size, fun k hk => h.block k hk (fun e => e)⟩
theorem Fr.refl (base : Nat) (foot : Nat → Prop) (w : World) : Fr base foot w w := ⟨rfl, rfl, rfl, Nat.le_refl _, fun _ _ _ => rfl⟩
theorem Fr.trans {base : Nat} {foot : Nat → Prop} {a b c : World} (h : Fr base foot a b) (k : Fr base foot b c) : Fr base foot a c :=
  ⟨k.os.trans h.os, k.tape.trans h.tape, k.output.trans h.output, Nat.le_trans h.size k.size, fun i hi hf => (k.block i hi hf).trans (h.block i hi hf)⟩
/-- One block as it lies. -/
inductive RelB (c : Cx) (foot : Nat → Prop) (b : Id) : Cont → Prop where
  | none (fl : Bool) (e sz : Nat) (hz : c.sz b = sz) (h0 : 0 < sz) (ha : c.at_ b = none) : RelB c foot b (.rows fl e sz [])
  | rows (fl : Bool) (e sz : Nat) (rs : List (List PV)) (g cap : Nat) (cur : Array Value) (hz : c.sz b = sz) (h0 : 0 < sz) (ha : c.at_ b = some (g, cap)) (ho : c.base ≤ g ∨ foot g) (hh : c.w.heap[g]? = some (.cells cur e (0, 0)))
      (hn : rs.length ≤ cap) (hm : cap ≤ maxLen) (hs : cap * sz ≤ cur.size ∧ (fl = false → cur.size = rs.length * sz)) (hl : ∀ (i : Nat) (row : List PV), rs[i]? = some row → row.length = sz) (h1 : ∀ (i : Nat) (row : List PV) (j : Nat) (x : PV), rs[i]? = some row → row[j]? = some x → x.one = true ∧ (fl = true → x.sf = true))
      (hr : ∀ (i : Nat) (row : List PV) (j : Nat) (x : PV), rs[i]? = some row → row[j]? = some x → ∃ u, cur[i * sz + j]? = some u ∧ RelV c x u) : RelB c foot b (.rows fl e sz rs)
  | iter (s : ByteArray) (pos g cap : Nat) (ha : c.at_ b = some (g, cap)) (ho : c.base ≤ g ∨ foot g) (hh : c.w.heap[g]? = some (.stringIter s pos)) : RelB c foot b (.iter s pos)
/-- All that holds while a call runs: 'w0' is the world when it began. -/
structure Rel (w0 : World) (foot : Nat → Prop) (omut : Nat → Prop) (σ : St) (tmps : Array Value) (c : Cx) : Prop where
  tm : ∀ i, RelV c (σ.t i) (tmps.getD i undef)
  ver : ∀ b, c.ver b = (σ.m b).ver
  mem : ∀ b x, (σ.m b).live = some x → RelB c foot b x
  mt : ∀ k, c.mu k ↔ (omut k ∨ ∃ b x cap, (σ.m b).live = some x ∧ c.at_ b = some (k, cap))
  inj : ∀ b b' x x' g cap cap', (σ.m b).live = some x → (σ.m b').live = some x' → c.at_ b = some (g, cap) → c.at_ b' = some (g, cap') → b = b'
  om : ∀ k, omut k → k < c.base ∧ ¬ foot k
  fr : Fr c.base foot w0 c.w
  bs : c.base ≤ c.w.heap.size
  fb : ∀ k, foot k → k < c.base
  bw : w0.heap.size ≤ c.base
theorem RelB.le {c d : Cx} {foot : Nat → Prop} {b : Id} {x : Cont} (h : RelB c foot b x) (hle : c.le d) (hv : c.ver b = d.ver b) (hk : ∀ g cap, c.at_ b = some (g, cap) → d.w.heap[g]? = c.w.heap[g]?) : RelB d foot b x := by
  obtain ⟨s1, s2⟩ := hle.same b hv
  cases h with
  | none fl e sz hz h0 ha => exact .none fl e sz (s2.trans hz) h0 (s1.trans ha)
  | rows fl e sz rs g cap cur hz h0 ha ho hh hn hm hs hl h1 hr =>
    exact .rows fl e sz rs g cap cur (s2.trans hz) h0 (s1.trans ha) (by rw [← hle.base]; exact ho) ((hk g cap ha).trans hh) hn hm hs hl h1 (fun i row j x a b => by obtain ⟨u, p, q⟩ := hr i row j x a b; exact ⟨u, p, q.le hle⟩)
  | iter s pos g cap ha ho hh => exact .iter s pos g cap (s1.trans ha) (by rw [← hle.base]; exact ho) ((hk g cap ha).trans hh)
end Go.Proofs.Ev
namespace Go.Proofs.Ev
open Go Go.RowKit
set_option linter.unusedVariables false
set_option linter.unusedSimpArgs false
def szP (P : Program) (t : Nat) : Nat := ((P.info? t).map (·.size)).getD 0
def byP (P : Program) (t : Nat) : Nat := ((P.info? t).map (·.bytes)).getD 0
def elP (P : Program) (t : Nat) : Option Nat := match P.underlying t with | some (.slice e) => some e | _ => none
def aggP (P : Program) (t : Nat) : Bool := match P.underlying t with | some (.struct _) => true | some (.array _ _) => true | _ => false
def offP (P : Program) (s f : Nat) : Option (Nat × Nat) := match P.underlying s with | some (.struct fs) => (fs[f]?).map fun x => (x.offset, x.type) | _ => none
def intP (P : Program) (t : Nat) : Option IntKind := match P.underlying t with | some (.int k) => some k | _ => none
def strP (P : Program) (t : Nat) : Bool := match P.underlying t with | some .string => true | _ => false
def knownP (P : Program) (t : Nat) : Bool := (P.info? t).isSome && (P.underlying t).isSome
def zeroP (P : Program) (t : Nat) : Option (List Value) := ((P.info? t).bind (·.zero)).map (·.cells.toList)
def structP (P : Program) (t : Nat) : Bool := match P.underlying t with | some (.struct fs) => fs.all fun f => knownP P f.type | _ => false
/-- A constant as a value. -/
def pvc : Value → PV
  | .int k n => .int k n
  | .bool b => .bool b
  | .string s => .str s
  | .slice none 0 0 => .nils
  | .pointer none => .nilp
  | .nilIface => .nili
  | .nilFunc => .nilf
  | _ => .dead
/-- A zero in a struct that is built. -/
def pvz : Value → PV
  | .slice none 0 0 => .ro []
  | v => pvc v
def St.ev (σ : St) : Operand → PV
  | .tmp t => σ.t t
  | .const v => pvc v
  | .global _ => .dead
  | .func f => .fn f []
/-- What an operation does: its value, the blocks that it looked into, the blocks that it wrote. -/
structure Eff where
  v : PV
  lk : List Id
  wr : List (Id × Blk)
def upd (f : Nat → PV) (d : Nat) (v : PV) : Nat → PV := fun i => if i = d then v else f i
def updm (m : Id → Blk) (b : Id) (x : Blk) : Id → Blk := fun i => if i = b then x else m i
def St.app (σ : St) (dst : Option Nat) (e : Eff) : St where
  t := match dst with | some d => upd σ.t d e.v | none => σ.t
  m := e.wr.foldl (fun m p => updm m p.1 p.2) σ.m
def look (m : Id → Blk) (b : Id) (v : Nat) : Option Cont := if (m b).ver = v then (m b).live else none
def PV.cells : PV → List PV
  | .agg cs => cs
  | x => [x]
def mkB (m : Id → Blk) (b : Id) (c : Cont) : Id × Blk := (b, ⟨(m b).ver + 1, some c⟩)
def splice (row : List PV) (o : Nat) (cs : List PV) : List PV := row.take o ++ cs ++ row.drop (o + cs.length)
def fillP (P : Program) (t : Nat) (ev : Operand → PV) : List (Nat × Operand) → List PV → Option (List PV)
  | [], cs => some cs
  | (i, x) :: l, cs =>
    match offP P t i with
    | some (off, ft) => if szP P ft = (ev x).cells.length ∧ off + (ev x).cells.length ≤ cs.length ∧ knownP P ft = true ∧ (ev x).cells.all PV.one = true then fillP P t ev l (splice cs off (ev x).cells) else none
    | none => none
def fillR (sz : Nat) (ev : Operand → PV) : List (Nat × Operand) → List (List PV) → Option (List (List PV))
  | [], rs => some rs
  | (i, x) :: l, rs => if (ev x).cells.length = sz ∧ i < rs.length ∧ (ev x).cells.all PV.one = true then fillR sz ev l (rs.set i (ev x).cells) else none
def binI (op : BinOp) (k : IntKind) (a b : Int) : Option PV :=
  match op with
  | .add => some (.int k (k.wrap (a + b)))
  | .sub => some (.int k (k.wrap (a - b)))
  | .mul => some (.int k (k.wrap (a * b)))
  | .quo => if b = 0 then none else some (.int k (k.wrap (a.tdiv b)))
  | .rem => if b = 0 then none else some (.int k (a.tmod b))
  | .eql => some (.bool (a == b))
  | .neq => some (.bool (a != b))
  | .lss => some (.bool (decide (a < b)))
  | .leq => some (.bool (decide (a ≤ b)))
  | .gtr => some (.bool (decide (a > b)))
  | .geq => some (.bool (decide (a ≥ b)))
  | .and => some (.int k (k.wrap (BitVec.ofInt k.bits a &&& BitVec.ofInt k.bits b).toNat))
  | .or => some (.int k (k.wrap (BitVec.ofInt k.bits a ||| BitVec.ofInt k.bits b).toNat))
  | .xor => some (.int k (k.wrap (BitVec.ofInt k.bits a ^^^ BitVec.ofInt k.bits b).toNat))
  | .andNot => some (.int k (k.wrap (BitVec.ofInt k.bits a &&& ~~~ BitVec.ofInt k.bits b).toNat))
  | .shl => if b < 0 then none else some (.int k (k.wrap (a * 2 ^ (min b.toNat k.bits))))
  | .shr => if b < 0 then none else some (.int k (a.fdiv (2 ^ (min b.toNat k.bits))))
def binS (op : BinOp) (a b : ByteArray) : Option PV :=
  match op with
  | .add => if a.size + b.size ≤ 9223372036854775807 then some (.str (a ++ b)) else none
  | .eql => some (.bool (a.toList == b.toList))
  | .neq => some (.bool (!(a.toList == b.toList)))
  | .lss => some (.bool (Op.bytesLess a.toList b.toList))
  | .leq => some (.bool (Op.bytesLess a.toList b.toList || a.toList == b.toList))
  | .gtr => some (.bool (!(Op.bytesLess a.toList b.toList || a.toList == b.toList)))
  | .geq => some (.bool (!(Op.bytesLess a.toList b.toList)))
  | _ => none
def binF (op : BinOp) (x y : PV) : Option PV :=
  match x, y with
  | .int k a, .int j b => if k = j ∨ op = .shl ∨ op = .shr then binI op k a b else none
  | .str a, .str b => binS op a b
  | _, _ => none
/-- The fields of a struct that is compared cell by cell. -/
def fldP (P : Program) (t : Nat) : Option (List (Nat × Nat)) := match P.underlying t with
  | some (.struct fs) => if (fs.toList.all fun f => f.name != "_") = true ∧ P.stoodInHeld t = false ∧ P.eqGuardType P.depth t = false then some (fs.toList.map fun f => (f.offset, f.type)) else none
  | _ => none
def eq1 (P : Program) (t : Nat) (x y : Option PV) : Option Bool :=
  match x, y with
  | some (.int k a), some (.int j b) => if k = j ∧ (intP P t).isSome = true then some (a == b) else none
  | some (.str a), some (.str b) => if strP P t = true then some (a.toList == b.toList) else none
  | _, _ => none
def eqFs (P : Program) (xs ys : List PV) : List (Nat × Nat) → Option Bool
  | [] => some true
  | (o, t) :: l => (eq1 P t xs[o]? ys[o]?).bind fun r => (eqFs P xs ys l).map (r && ·)
def eqB (op : BinOp) (r : Bool) : Option PV := match op with
  | .eql => some (.bool r)
  | .neq => some (.bool (!r))
  | _ => none
def boolP (P : Program) (t : Nat) : Bool := match P.underlying t with | some .bool => true | _ => false
def binE (P : Program) (op : BinOp) (t : Nat) (x y : PV) : Option PV :=
  match x, y with
  | .agg xs, .agg ys => (fldP P t).bind fun l => (eqFs P xs ys l).bind (eqB op)
  | .ro (_ :: _), .nils => if (elP P t).isSome = true then eqB op false else none
  | .re, .nils => if (elP P t).isSome = true then eqB op false else none
  | .nils, .nils => if (elP P t).isSome = true then eqB op true else none
  | .bool a, .bool b => if boolP P t = true then eqB op (a == b) else none
  | _, _ => none
def binG (P : Program) (op : BinOp) (t : Nat) (x y : PV) : Option PV :=
  match binF op x y with
  | some r => some r
  | none => binE P op t x y
def isStr : PV → Bool
  | .str _ => true
  | _ => false
def rowsOk (n : Nat) : PV → Bool
  | .ro rows => rows.all fun r => r.length == n
  | _ => true
def ownLive (m : Id → Blk) : PV → Bool
  | .own b v _ => match look m b v with
    | some (.rows _ _ _ _) => true
    | _ => false
  | _ => true
def lkOf : PV → List Id
  | .own b _ _ => [b]
  | _ => []
def sliceOk (P : Program) (m : Id → Blk) (t : Nat) (x : PV) : Bool := if isStr x = true then strP P t else match elP P t with | some e => decide (0 < szP P e) && rowsOk (szP P e) x && ownLive m x | none => false
def lenOk (P : Program) (m : Id → Blk) (t : Nat) (x : PV) : Bool := (if isStr x = true then strP P t else (elP P t).isSome) && ownLive m x
def lenP : PV → Option Nat
  | .str s => some s.size
  | .nils => some 0
  | .re => some 0
  | .ro rows => some rows.length
  | .own _ _ n => some n
  | _ => none
def sliceF (x : PV) (l : Int) (h : Option Int) : Option PV :=
  match x with
  | .str s => match h with
    | none => if 0 ≤ l ∧ l ≤ s.size then some (.str (s.extract l.toNat s.size)) else none
    | some h => if 0 ≤ l ∧ l ≤ h ∧ h ≤ s.size then some (.str (s.extract l.toNat h.toNat)) else none
  | .ro rows => match h with
    | none => if 0 ≤ l ∧ l ≤ rows.length then some (.ro (rows.drop l.toNat)) else none
    | some h => if 0 ≤ l ∧ l ≤ h ∧ h ≤ rows.length then some (.ro ((rows.take h.toNat).drop l.toNat)) else none
  | .own b v n => match h with
    | some h => if l = 0 ∧ 0 ≤ h ∧ h ≤ n then some (.own b v h.toNat) else none
    | none => if l = 0 then some (.own b v n) else none
  | .nils => if l = 0 ∧ (h = none ∨ h = some 0) then some .nils else none
  | _ => none
def intOfP : PV → Option Int
  | .int _ n => some n
  | _ => none
def boolOfP : PV → Option Bool
  | .bool b => some b
  | _ => none
def loP (ev : Operand → PV) : Option Operand → Option Int
  | some z => intOfP (ev z)
  | none => some 0
def hiP (ev : Operand → PV) : Option Operand → Option (Option Int)
  | some z => (intOfP (ev z)).map some
  | none => some none
def loadRow (P : Program) (t : Nat) (row : List PV) (o : Nat) : Option PV :=
  if aggP P t = true then (if o + szP P t ≤ row.length then some (.agg ((row.drop o).take (szP P t))) else none) else row[o]?
/-- A text's bytes, as rows. -/
def byteRows (s : ByteArray) : List (List PV) := s.data.toList.map fun b => [PV.int .u8 b.toNat]
/-- What an operation gives that calls no function of the text. -/
def opF (P : Program) (σ : St) (o : Oper) : Option Eff :=
  let ev := σ.ev
  let d := o.dst.getD 0
  let val : Option PV → Option Eff := fun x => x.map fun v => ⟨v, [], []⟩
  match o.op with
  | .move (.const (.slice none 0 0)) | .assign (.const (.slice none 0 0)) =>
    match elP P o.type with
    | some e => if 0 < szP P e then some ⟨.own (.loc d 0) ((σ.m (.loc d 0)).ver + 1) 0, [], [mkB σ.m (.loc d 0) (.rows true e (szP P e) [])]⟩ else none
    | none => none
  | .move x | .assign x => some ⟨ev x, [], []⟩
  | .pick c a b => (boolOfP (ev c)).map fun t => ⟨if t then ev a else ev b, [], []⟩
  | .alloc t =>
    match zeroP P t with
    | some zs => if 0 < zs.length ∧ szP P t = zs.length ∧ zs.all (fun z => (pvc z).one) = true then some ⟨.ptr (.loc d 0) ((σ.m (.loc d 0)).ver + 1) 0 0, [], [mkB σ.m (.loc d 0) (.rows false t zs.length [zs.map pvc])]⟩ else none
    | none => none
  | .box t x => if 0 < (ev x).cells.length ∧ (ev x).cells.all PV.one = true then some ⟨.ptr (.loc d 0) ((σ.m (.loc d 0)).ver + 1) 0 0, [], [mkB σ.m (.loc d 0) (.rows false t (ev x).cells.length [(ev x).cells])]⟩ else none
  | .build t ps =>
    if structP P t = true then
    match zeroP P t with
    | some zs => (fillP P t ev ps.toList (zs.map pvc)).map fun cs => ⟨.agg cs, [], []⟩
    | none => none
    else none
  | .buildSlice t n ps =>
    match elP P t with
    | some e =>
      match zeroP P e with
      | some zs => if 0 < zs.length ∧ szP P e = zs.length ∧ n * zs.length ≤ 16777216 then
          (fillR zs.length ev ps.toList (List.replicate n (zs.map pvc))).bind fun rs => if (rs.all fun r => r.all PV.sf) = true then some ⟨.own (.loc d 0) ((σ.m (.loc d 0)).ver + 1) n, [], [mkB σ.m (.loc d 0) (.rows true e zs.length rs)]⟩ else none
        else none
      | none => none
    | none => none
  | .load t a =>
    if knownP P t = true then
    match ev a with
    | .ptr b v i o =>
      match look σ.m b v with
      | some (.rows _ _ _ rs) => (rs[i]?).bind fun row => (loadRow P t row o).map fun x => ⟨x, [b], []⟩
      | _ => none
    | .rp row o => (loadRow P t row o).map fun x => ⟨x, [], []⟩
    | _ => none
    else none
  | .store t a x =>
    if knownP P t = true then
    match ev a with
    | .ptr b v i o =>
      match look σ.m b v with
      | some (.rows fl e sz rs) => (rs[i]?).bind fun row => if (ev x).cells.length = szP P t ∧ o + (ev x).cells.length ≤ row.length ∧ (ev x).cells.all PV.one = true ∧ (fl = true → (ev x).cells.all PV.sf = true) then some ⟨.dead, [b], [(b, ⟨v, some (.rows fl e sz (rs.set i (splice row o (ev x).cells)))⟩)]⟩ else none
      | _ => none
    | _ => none
    else none
  | .nilCheck x => match ev x with
    | .ptr b v i o => match look σ.m b v with
      | some (.rows _ _ _ rs) => if i < rs.length then some ⟨.ptr b v i o, [b], []⟩ else none
      | _ => none
    | .rp r o => some ⟨.rp r o, [], []⟩
    | _ => none
  | .binOp op t x y _ => val (binG P op t (ev x) (ev y))
  | .unOp .not _ x => (boolOfP (ev x)).map fun b => ⟨.bool (!b), [], []⟩
  | .unOp .neg _ x => match ev x with
    | .int k n => some ⟨.int k (k.wrap (0 - n)), [], []⟩
    | _ => none
  | .convert s t x =>
    match ev x with
    | .int _ n => if knownP P s = true then (match intP P t with | some k => some ⟨.int k (k.wrap n), [], []⟩ | none => if strP P t = true then some ⟨.str (Utf8.encode n), [], []⟩ else none) else none
    | .str a => if knownP P s = true ∧ strP P t = true then some ⟨.str a, [], []⟩ else none
    | _ => none
  | .makeFunc (.func f) first caps => if first = #[] then some ⟨.fn f (caps.toList.map ev), [], []⟩ else none
  | .slice t x lo hi none =>
    if sliceOk P σ.m t (ev x) = true then (loP ev lo).bind fun l => (hiP ev hi).bind fun h => (sliceF (ev x) l h).map fun v => ⟨v, lkOf (ev x), []⟩ else none
  | .fieldAddr s x f =>
    match offP P s f with
    | some (off, ft) => if szP P ft = 0 then none else
      match ev x with
      | .ptr b v i o => match look σ.m b v with
        | some (.rows _ _ _ rs) => if i < rs.length then some ⟨.ptr b v i (o + off), [b], []⟩ else none
        | _ => none
      | .rp r o => some ⟨.rp r (o + off), [], []⟩
      | _ => none
    | none => none
  | .field s x f =>
    match offP P s f, ev x with
    | some (off, ft), .agg cs => if knownP P ft = true then val (loadRow P ft cs off) else none
    | _, _ => none
  | .indexAddr t x ix =>
    match elP P t, intOfP (ev ix) with
    | some e, some i =>
      match ev x with
      | .ro rows => if 0 ≤ i then (rows[i.toNat]?).bind fun row => if row.length = szP P e ∧ 0 < szP P e then some ⟨.rp row 0, [], []⟩ else none else none
      | .own b v n =>
        match look σ.m b v with
        | some (.rows _ _ sz rs) => if 0 ≤ i ∧ i < n ∧ n ≤ rs.length ∧ sz = szP P e then some ⟨.ptr b v i.toNat 0, [b], []⟩ else none
        | _ => none
      | _ => none
    | _, _ => none
  | .index t x ix =>
    match ev x, intOfP (ev ix) with
    | .str s, some i => if strP P t = true ∧ 0 ≤ i then (s[i.toNat]?).map fun b => ⟨.int .u8 b.toNat, [], []⟩ else none
    | _, _ => none
  | .range t x =>
    match ev x with
    | .str s => if strP P t = true then some ⟨.it (.loc d 0) ((σ.m (.loc d 0)).ver + 1), [], [mkB σ.m (.loc d 0) (.iter s 0)]⟩ else none
    | _ => none
  | .next x true =>
    match ev x with
    | .it b v =>
      match look σ.m b v with
      | some (.iter s pos) => if pos < s.size then some ⟨.tup [.bool true, .int .i64 pos, .int .i32 (Utf8.decode s pos).1], [b], [(b, ⟨v, some (.iter s (pos + (Utf8.decode s pos).2))⟩)]⟩ else some ⟨.tup [.bool false], [b], []⟩
      | _ => none
    | _ => none
  | .extract x i => match ev x with
    | .tup vs => val (vs[i]?)
    | _ => none
  | .call { callee := .builtin .len, args, argTypes } =>
    match args.toList, argTypes.toList with
    | [x], [t] => if lenOk P σ.m t (ev x) = true then (lenP (ev x)).map fun (n : Nat) => ⟨.int .i64 (n : Int), lkOf (ev x), []⟩ else none
    | _, _ => none
  | .call { callee := .builtin .append, args, argTypes } =>
    match args.toList, argTypes.toList with
    | [x, y], [t, t'] =>
      if t = t' then
      match elP P t, ev x with
      | some e, .own b v n =>
        match look σ.m b v, zeroP P e with
        | some (.rows true e' sz rs), some zs =>
          if e' = e ∧ sz = szP P e ∧ zs.length = sz ∧ 0 < sz ∧ n ≤ rs.length ∧ zs.all (fun z => (pvc z).one) = true then
            let go := fun (lk : List Id) (new : List (List PV)) => if (new.all fun r => decide (r.length = sz) && r.all PV.sf) = true ∧ n + new.length ≤ 9223372036854775807 ∧ (n + new.length) * byP P e ≤ 140737488355328 then some (⟨.own b (v + 1) (n + new.length), b :: lk, [(b, ⟨v + 1, some (.rows true e sz (rs.take n ++ new))⟩)]⟩ : Eff) else none
            match ev y with
            | .nils => go [] []
            | .re => go [] []
            | .ro new => go [] new
            | .own b' v' n' =>
              match look σ.m b' v' with
              | some (.rows _ _ _ rs') => if n' ≤ rs'.length ∧ b' ≠ b then go [b'] (rs'.take n') else none
              | _ => none
            | _ => none
          else none
        | _, _ => none
      | some e, .nils =>
        match zeroP P e with
        | some zs =>
          if zs.length = szP P e ∧ 0 < szP P e ∧ zs.all (fun z => (pvc z).one) = true then
            let go := fun (lk : List Id) (new : List (List PV)) => if (new.all fun r => decide (r.length = szP P e) && r.all PV.sf) = true ∧ new.length ≤ 9223372036854775807 ∧ new.length * byP P e ≤ 140737488355328 then some (⟨.own (.loc d 0) ((σ.m (.loc d 0)).ver + 2) new.length, .loc d 0 :: lk, [(.loc d 0, ⟨(σ.m (.loc d 0)).ver + 2, some (.rows true e (szP P e) new)⟩)]⟩ : Eff) else none
            match ev y with
            | .nils => go [] []
            | .re => go [] []
            | .ro new => go [] new
            | .own b' v' n' =>
              match look σ.m b' v' with
              | some (.rows _ _ _ rs') => if n' ≤ rs'.length ∧ b' ≠ .loc d 0 then go [b'] (rs'.take n') else none
              | _ => none
            | _ => none
          else none
        | none => none
      | _, _ => none
      else
      match elP P t, ev x, ev y with
      | some e, .own b v n, .str s =>
        match look σ.m b v, zeroP P e with
        | some (.rows true e' sz rs), some zs =>
          if e' = e ∧ sz = 1 ∧ szP P e = 1 ∧ zs.length = 1 ∧ n ≤ rs.length ∧ strP P t' = true ∧ n + s.size ≤ 9223372036854775807 ∧ (n + s.size) * byP P e ≤ 140737488355328 then some ⟨.own b (v + 1) (n + s.size), [b], [(b, ⟨v + 1, some (.rows true e 1 (rs.take n ++ byteRows s))⟩)]⟩ else none
        | _, _ => none
      | some e, .nils, .str s =>
        match zeroP P e with
        | some zs =>
          if szP P e = 1 ∧ zs.length = 1 ∧ strP P t' = true ∧ s.size ≤ 9223372036854775807 ∧ s.size * byP P e ≤ 140737488355328 then some ⟨.own (.loc d 0) ((σ.m (.loc d 0)).ver + 2) s.size, [.loc d 0], [(.loc d 0, ⟨(σ.m (.loc d 0)).ver + 2, some (.rows true e 1 (byteRows s))⟩)]⟩ else none
        | none => none
      | _, _, _ => none
    | _, _ => none
  | .call { callee := .builtin .max, args, .. } =>
    match args.toList with
    | [x, y] => match ev x, ev y with
      | .int k a, .int _ b => some ⟨.int k (if b > a then b else a), [], []⟩
      | _, _ => none
    | _ => none
  | .call { callee := .builtin .min, args, .. } =>
    match args.toList with
    | [x, y] => match ev x, ev y with
      | .int k a, .int _ b => some ⟨.int k (if b < a then b else a), [], []⟩
      | _, _ => none
    | _ => none
  | .makeSlice t l cp =>
    match elP P t, intOfP (ev l), intOfP (ev cp) with
    | some e, some n, some n' =>
      match zeroP P e with
      | some zs => if n = n' ∧ 0 ≤ n ∧ 0 < zs.length ∧ szP P e = zs.length ∧ zs.all (fun z => (pvc z).sf) = true ∧ n * byP P e ≤ 140737488355328 ∧ n ≤ 9223372036854775807 then some ⟨.own (.loc d 0) ((σ.m (.loc d 0)).ver + 1) n.toNat, [], [mkB σ.m (.loc d 0) (.rows true e zs.length (List.replicate n.toNat (zs.map pvc)))]⟩ else none
      | none => none
    | _, _, _ => none
  | .call { callee := .builtin .cap, args, argTypes } =>
    match args.toList, argTypes.toList with
    | [x], [t] => match ev x, elP P t with
      | .nils, some _ => some ⟨.int .i64 0, [], []⟩
      | _, _ => none
    | _, _ => none
  | _ => none
end Go.Proofs.Ev
namespace Go.Proofs.Ev
open Go Go.RowKit
set_option linter.unusedVariables false
set_option linter.unusedSimpArgs false
section
variable {w0 : World} {foot omut : Nat → Prop} {σ : St} {tmps : Array Value} {c : Cx}
theorem RelB.lt {b : Id} {x : Cont} (h : RelB c foot b x) {g cap : Nat} (ha : c.at_ b = some (g, cap)) : g < c.w.heap.size ∧ (c.base ≤ g ∨ foot g) := by
  cases h with
  | none fl e sz hz h0 ha' => rw [ha'] at ha; cases ha
  | rows fl e sz rs g' cap' cur hz h0 ha' ho hh hn hm hs hl h1 hr =>
    rw [ha'] at ha
    cases ha
    refine ⟨?_, ho⟩
    rcases Nat.lt_or_ge g c.w.heap.size with h | h
    · exact h
    · rw [Array.getElem?_eq_none h] at hh; cases hh
  | iter s pos g' cap' ha' ho hh =>
    rw [ha'] at ha
    cases ha
    refine ⟨?_, ho⟩
    rcases Nat.lt_or_ge g c.w.heap.size with h | h
    · exact h
    · rw [Array.getElem?_eq_none h] at hh; cases hh
/-- One block turns: it is written, or made anew, or moved as it grows. -/
theorem Rel.turn (R : Rel w0 foot omut σ tmps c) (b : Id) (ver' : Nat) (x : Cont) (w' : World) (at' : Option (Nat × Nat)) (sz' : Nat)
    (hv : c.ver b ≤ ver') (hsame : ver' = c.ver b → at' = c.at_ b ∧ sz' = c.sz b)
    (hos : w'.os = c.w.os) (htape : w'.tape = c.w.tape) (hout : w'.output = c.w.output) (hsize : c.w.heap.size ≤ w'.heap.size)
    (hblk : ∀ k, k < c.w.heap.size → (∀ y cap, (σ.m b).live = some y → c.at_ b = some (k, cap) → False) → w'.heap[k]? = c.w.heap[k]?)
    (hat : ∀ g cap, at' = some (g, cap) → c.w.heap.size ≤ g ∨ ∃ y cap', (σ.m b).live = some y ∧ c.at_ b = some (g, cap'))
    (hB : ∀ d : Cx, d.w = w' → d.base = c.base → d.at_ b = at' → d.sz b = sz' → d.ver b = ver' → c.le d → RelB d foot b x) :
    ∃ d : Cx, d.w = w' ∧ d.base = c.base ∧ d.at_ b = at' ∧ d.sz b = sz' ∧ d.ver b = ver' ∧ c.le d ∧ Rel w0 foot omut { σ with m := updm σ.m b ⟨ver', some x⟩ } tmps d := by
  let at_ : Id → Option (Nat × Nat) := fun i => if i = b then at' else c.at_ i
  let m' := updm σ.m b ⟨ver', some x⟩
  let d : Cx := { w := w', base := c.base, mu := fun k => omut k ∨ ∃ b0 y cap, (m' b0).live = some y ∧ at_ b0 = some (k, cap), at_ := at_, sz := fun i => if i = b then sz' else c.sz i, ver := fun i => if i = b then ver' else c.ver i }
  have hd1 : d.at_ b = at' := by simp [d, at_]
  have hd2 : d.sz b = sz' := by simp [d]
  have hd3 : d.ver b = ver' := by simp [d]
  have hmb : m' b = ⟨ver', some x⟩ := by simp [m', updm]
  have hmo : ∀ i, i ≠ b → m' i = σ.m i := fun i hi => by simp [m', updm, hi]
  have hao : ∀ i, i ≠ b → at_ i = c.at_ i := fun i hi => by simp [at_, hi]
  have hle : c.le d := by
    refine ⟨rfl, hsize, fun k hk hm => ⟨?_, ?_⟩, fun i => ?_, fun i hi => ?_⟩
    · rintro (ho | ⟨b0, y, cap, h1, h2⟩)
      · exact hm ((R.mt k).2 (.inl ho))
      · by_cases e : b0 = b
        · subst e
          rw [show at_ b0 = at' from by simp [at_]] at h2
          rcases hat k cap h2 with h | ⟨y', cap', h3, h4⟩
          · omega
          · exact hm ((R.mt k).2 (.inr ⟨b0, y', cap', h3, h4⟩))
        · rw [hmo _ e] at h1
          rw [hao _ e] at h2
          exact hm ((R.mt k).2 (.inr ⟨b0, y, cap, h1, h2⟩))
    · exact hblk k hk (fun y cap h1 h2 => hm ((R.mt k).2 (.inr ⟨b, y, cap, h1, h2⟩)))
    · show c.ver i ≤ if i = b then ver' else c.ver i
      split
      · rename_i e; subst e; exact hv
      · exact Nat.le_refl _
    · by_cases e : i = b
      · subst e
        have hi' : c.ver i = ver' := by simpa [d] using hi
        obtain ⟨p, q⟩ := hsame hi'.symm
        exact ⟨hd1.trans p, hd2.trans q⟩
      · exact ⟨hao i e, by simp [d, e]⟩
  refine ⟨d, rfl, rfl, hd1, hd2, hd3, hle, ?_⟩
  have hb : RelB d foot b x := hB d rfl rfl hd1 hd2 hd3 hle
  have hother : ∀ b0 y, b0 ≠ b → (σ.m b0).live = some y → RelB d foot b0 y := by
    intro b0 y e h1
    have h2 := R.mem b0 y h1
    refine h2.le hle (by simp [d, e]) (fun g cap hg => ?_)
    refine hblk g (h2.lt hg).1 (fun y' cap' h3 h4 => e (R.inj b0 b y y' g cap cap' h1 h3 hg h4))
  constructor
  · exact fun i => (R.tm i).le hle
  · intro i
    show d.ver i = (m' i).ver
    by_cases e : i = b
    · subst e; rw [hd3, hmb]
    · rw [hmo i e, ← R.ver i]; simp [d, e]
  · intro b0 y h
    by_cases e : b0 = b
    · subst e
      rw [show (({ σ with m := m' } : St).m b0) = ⟨ver', some x⟩ from hmb] at h
      cases h
      exact hb
    · rw [show (({ σ with m := m' } : St).m b0) = σ.m b0 from hmo b0 e] at h
      exact hother b0 y e h
  · exact fun k => Iff.rfl
  · intro b1 b2 x1 x2 g cap1 cap2 h1 h2 h3 h4
    by_cases e1 : b1 = b
    · by_cases e2 : b2 = b
      · rw [e1, e2]
      · exfalso
        rw [show (({ σ with m := m' } : St).m b2) = σ.m b2 from hmo b2 e2] at h2
        rw [show d.at_ b2 = c.at_ b2 from hao b2 e2] at h4
        rw [e1, hd1] at h3
        rcases hat g cap1 h3 with h | ⟨y', cap', h5, h6⟩
        · have := ((R.mem b2 x2 h2).lt h4).1; omega
        · exact e2 (R.inj b2 b x2 y' g cap2 cap' h2 h5 h4 h6)
    · rw [show (({ σ with m := m' } : St).m b1) = σ.m b1 from hmo b1 e1] at h1
      rw [show d.at_ b1 = c.at_ b1 from hao b1 e1] at h3
      by_cases e2 : b2 = b
      · exfalso
        rw [e2, hd1] at h4
        rcases hat g cap2 h4 with h | ⟨y', cap', h5, h6⟩
        · have := ((R.mem b1 x1 h1).lt h3).1; omega
        · exact e1 (R.inj b1 b x1 y' g cap1 cap' h1 h5 h3 h6)
      · rw [show (({ σ with m := m' } : St).m b2) = σ.m b2 from hmo b2 e2] at h2
        rw [show d.at_ b2 = c.at_ b2 from hao b2 e2] at h4
        exact R.inj b1 b2 x1 x2 g cap1 cap2 h1 h2 h3 h4
  · exact R.om
  · refine R.fr.trans ⟨hos, htape, hout, hsize, fun k hk hf => ?_⟩
    refine hblk k (Nat.lt_of_lt_of_le hk R.bs) (fun y cap h1 h2 => ?_)
    rcases ((R.mem b y h1).lt h2).2 with h | h
    · omega
    · exact hf h
  · exact Nat.le_trans R.bs hsize
  · exact R.fb
  · exact R.bw
theorem Act.put_tmps (a : Act) (dst : Option Tmp) (u : Value) : (a.put dst u).tmps = match dst with | some d => a.tmps.setIfInBounds d u | none => a.tmps := by
  unfold Act.put
  cases dst <;> rfl
theorem Rel.put (R : Rel w0 foot omut σ tmps c) (d : Nat) (hd : d < tmps.size) (v : PV) (u : Value) (h : RelV c v u) : Rel w0 foot omut { σ with t := upd σ.t d v } (tmps.setIfInBounds d u) c where
  tm := fun i => by
    show RelV c (upd σ.t d v i) _
    unfold upd
    by_cases e : i = d
    · subst e
      rw [if_pos rfl]
      have : (tmps.setIfInBounds i u).getD i undef = u := by simp [Array.getD, hd]
      rw [this]; exact h
    · rw [if_neg e]
      have : (tmps.setIfInBounds d u).getD i undef = tmps.getD i undef := by
        simp only [Array.getD_eq_getD_getElem?]
        rw [Array.getElem?_setIfInBounds_ne (Ne.symm e)]
      rw [this]; exact R.tm i
  ver := R.ver
  mem := R.mem
  mt := R.mt
  inj := R.inj
  om := R.om
  fr := R.fr
  bs := R.bs
  fb := R.fb
  bw := R.bw
theorem Rel.ev (R : Rel w0 foot omut σ tmps c) {a : Act} (ha : a.tmps = tmps) (x : Operand) : RelV c (σ.ev x) (a.eval x) := by
  cases x with
  | tmp t => rw [St.ev, Act.eval, ha]; exact R.tm t
  | const v =>
    show RelV c (pvc v) v
    unfold pvc
    split <;> constructor
  | global g => exact .dead _
  | func f => exact .fn f [] [] rfl (fun i x u h => by simp at h)
end
end Go.Proofs.Ev
namespace Go.Proofs.Ev
open Go Go.RowKit
set_option linter.unusedVariables false
set_option linter.unusedSimpArgs false
section
variable {P : Program} {w0 : World} {foot omut : Nat → Prop} {σ : St} {tmps : Array Value} {c : Cx}
/-- The operation ends with a value (or none); what holds lasts. -/
def Did (P : Program) (w0 : World) (foot omut : Nat → Prop) (σ : St) (c : Cx) (o : Oper) (a : Act) (e : Eff) : Prop :=
  ∃ u w' d, ((execOp a.eval o).run P c.w = .ok (.value u) w' ∨ ((execOp a.eval o).run P c.w = .ok .skip w' ∧ u = undef)) ∧ d.w = w' ∧ d.base = c.base ∧ c.le d ∧
    Rel w0 foot omut (σ.app o.dst e) (a.put o.dst u).tmps d
theorem Did.val (R : Rel w0 foot omut σ tmps c) {a : Act} (ha : a.tmps = tmps) {o : Oper} (hd : ∀ d, o.dst = some d → d < tmps.size) {v : PV} {lk : List Id} {u : Value} (hu : RelV c v u) (hr : (execOp a.eval o).run P c.w = .ok (.value u) c.w) : Did P w0 foot omut σ c o a ⟨v, lk, []⟩ := by
  refine ⟨u, c.w, c, .inl hr, rfl, rfl, Cx.le.refl c, ?_⟩
  rw [Act.put_tmps]
  cases h : o.dst with
  | none => simp only [St.app, List.foldl_nil]; rw [ha]; exact R
  | some d => simp only [St.app, List.foldl_nil]; rw [ha]; exact R.put d (hd d h) v u hu
/-- A block is made or written, and the value is put. -/
theorem Did.turn (R : Rel w0 foot omut σ tmps c) {a : Act} (ha : a.tmps = tmps) {o : Oper} (hd : ∀ d, o.dst = some d → d < tmps.size) {v : PV} {lk : List Id} (b : Id) (ver' : Nat) (x : Cont) (u : Value) (w' : World) (at' : Option (Nat × Nat)) (sz' : Nat)
    (hr : (execOp a.eval o).run P c.w = .ok (.value u) w' ∨ ((execOp a.eval o).run P c.w = .ok .skip w' ∧ u = undef))
    (hv : c.ver b ≤ ver') (hsame : ver' = c.ver b → at' = c.at_ b ∧ sz' = c.sz b)
    (hos : w'.os = c.w.os) (htape : w'.tape = c.w.tape) (hout : w'.output = c.w.output) (hsize : c.w.heap.size ≤ w'.heap.size)
    (hblk : ∀ k, k < c.w.heap.size → (∀ y cap, (σ.m b).live = some y → c.at_ b = some (k, cap) → False) → w'.heap[k]? = c.w.heap[k]?)
    (hat : ∀ g cap, at' = some (g, cap) → c.w.heap.size ≤ g ∨ ∃ y cap', (σ.m b).live = some y ∧ c.at_ b = some (g, cap'))
    (hB : ∀ d : Cx, d.w = w' → d.base = c.base → d.at_ b = at' → d.sz b = sz' → d.ver b = ver' → c.le d → RelB d foot b x)
    (hu : ∀ d : Cx, d.w = w' → d.base = c.base → d.at_ b = at' → d.sz b = sz' → d.ver b = ver' → c.le d → RelV d v u) : Did P w0 foot omut σ c o a ⟨v, lk, [(b, ⟨ver', some x⟩)]⟩ := by
  obtain ⟨d, h1, h2, h3, h4, h5, h6, h7⟩ := R.turn b ver' x w' at' sz' hv hsame hos htape hout hsize hblk hat hB
  refine ⟨u, w', d, hr, h1, h2, h6, ?_⟩
  rw [Act.put_tmps]
  cases h : o.dst with
  | none => simp only [St.app, List.foldl_cons, List.foldl_nil]; rw [ha]; exact h7
  | some q => simp only [St.app, List.foldl_cons, List.foldl_nil]; rw [ha]; exact h7.put q (hd q h) v u (hu d h1 h2 h3 h4 h5 h6)
/-- A new block. -/
theorem Did.new (R : Rel w0 foot omut σ tmps c) {a : Act} (ha : a.tmps = tmps) {o : Oper} (hd : ∀ d, o.dst = some d → d < tmps.size) {v : PV} {lk : List Id} (b : Id) (x : Cont) (u : Value) (ob : Obj) (cap sz' : Nat)
    (hr : (execOp a.eval o).run P c.w = .ok (.value u) (c.w.alloc ob))
    (hB : ∀ d : Cx, d.w = c.w.alloc ob → d.base = c.base → d.at_ b = some (c.w.heap.size, cap) → d.sz b = sz' → d.ver b = (σ.m b).ver + 1 → c.le d → RelB d foot b x)
    (hu : ∀ d : Cx, d.at_ b = some (c.w.heap.size, cap) → d.sz b = sz' → d.ver b = (σ.m b).ver + 1 → RelV d v u) : Did P w0 foot omut σ c o a ⟨v, lk, [mkB σ.m b x]⟩ := by
  refine Did.turn R ha hd b _ x u (c.w.alloc ob) (some (c.w.heap.size, cap)) sz' (.inl hr) (by rw [R.ver b]; omega) (fun e => by have := R.ver b; omega) rfl rfl rfl (by simp) (fun k hk _ => Below.heap_alloc _ _ _ hk) (fun g cap' e => by cases e; exact .inl (Nat.le_refl _)) hB (fun d _ _ h3 h4 h5 _ => hu d h3 h4 h5)
theorem RelV.toPvc (d : Cx) (v : Value) : RelV d (pvc v) v := by
  unfold pvc
  split <;> constructor
theorem PV.one_of_sf {x : PV} (h : x.sf = true) : x.one = true := by
  cases x <;> simp_all [PV.sf, PV.one]
theorem one_cell {d : Cx} {x : PV} {u : Value} (h : RelV d x u) (h1 : x.one = true) : u.oneCell' = true := by
  cases h <;> simp_all [PV.one, Value.oneCell']
theorem one_cells {d : Cx} {x : PV} {u : Value} (h : RelV d x u) (h1 : x.one = true) : x.cells = [x] ∧ u.cells = #[u] := by
  have h2 := one_cell h h1
  refine ⟨?_, ?_⟩
  · cases x <;> simp_all [PV.one, PV.cells]
  · cases u <;> simp_all [Value.oneCell', Value.cells]
/-- A value's cells, each as it is told. -/
theorem cells_rel {d : Cx} {x : PV} {u : Value} (h : RelV d x u) (h1 : x.cells.all PV.one = true) :
    u.cells.size = x.cells.length ∧ (∀ (i : Nat) (y : PV), x.cells[i]? = some y → ∃ z : Value, u.cells[i]? = some z ∧ RelV d y z) ∧ (∀ (i : Nat) (z : Value), u.cells[i]? = some z → z.oneCell' = true) := by
  by_cases ho : x.one = true
  · obtain ⟨e1, e2⟩ := one_cells h ho
    rw [e1, e2]
    refine ⟨rfl, fun i y hy => ?_, fun i z hz => ?_⟩
    · match i, hy with
      | 0, hy => cases hy; exact ⟨u, rfl, h⟩
    · match i, hz with
      | 0, hz => cases hz; exact one_cell h ho
  · cases h with
    | agg cs us hl h =>
      simp only [PV.cells] at h1 ⊢
      have e : (Value.agg us.toArray).cells = us.toArray := rfl
      rw [e]
      refine ⟨by simp [hl], fun i y hy => ?_, fun i z hz => ?_⟩
      · have hi : i < us.length := by rw [← hl]; exact (List.getElem?_eq_some_iff.1 hy).1
        exact ⟨us[i], by simp [hi], h i y us[i] hy (by simp [hi])⟩
      · have hz' : us[i]? = some z := by simpa using hz
        have hi : i < cs.length := by rw [hl]; exact (List.getElem?_eq_some_iff.1 hz').1
        have := h i cs[i] z (by simp [hi]) hz'
        exact one_cell this (List.all_eq_true.1 h1 _ (List.getElem_mem hi))
    | tup cs us hl h => simp [PV.cells, PV.one] at h1
    | dead u => simp [PV.cells, PV.one] at h1
    | _ => exact absurd rfl ho
theorem zero_info {t : Nat} {zs : List Value} (h : zeroP P t = some zs) : ∃ i z, P.info? t = some i ∧ i.zero = some z ∧ z.cells.toList = zs := by
  unfold zeroP at h
  cases hi : P.info? t with
  | none => rw [hi] at h; cases h
  | some i =>
    rw [hi] at h
    cases hz : i.zero with
    | none => simp [hz] at h
    | some z => simp [hz] at h; exact ⟨i, z, rfl, hz, h⟩
theorem size_info {t n : Nat} (h : szP P t = n) (h0 : 0 < n) : ∃ i, P.info? t = some i ∧ i.size = n := by
  unfold szP at h
  cases hi : P.info? t with
  | none => rw [hi] at h; simp at h; omega
  | some i => rw [hi] at h; exact ⟨i, rfl, by simpa using h⟩
theorem el_under {t e : Nat} (h : elP P t = some e) : P.underlying t = some (.slice e) := by
  unfold elP at h
  split at h
  · rename_i e' he; cases h; exact he
  · cases h
theorem str_under {t : Nat} (h : strP P t = true) : P.underlying t = some .string := by
  unfold strP at h
  split at h
  · rename_i he; exact he
  · cases h
theorem int_under {t : Nat} {k : IntKind} (h : intP P t = some k) : P.underlying t = some (.int k) := by
  unfold intP at h
  split at h
  · rename_i e' he; cases h; exact he
  · cases h
theorem off_under {s f off ft : Nat} (h : offP P s f = some (off, ft)) : ∃ fs x, P.underlying s = some (.struct fs) ∧ fs[f]? = some x ∧ x.offset = off ∧ x.type = ft := by
  unfold offP at h
  split at h
  · rename_i fs he
    cases hx : fs[f]? with
    | none => rw [hx] at h; cases h
    | some x => rw [hx] at h; simp at h; exact ⟨fs, x, he, hx, h.1, h.2⟩
  · cases h
theorem run_isAgg (w : World) {t : Nat} {d : TypeDesc} (h : P.underlying t = some d) : (isAgg t).run P w = .ok (aggP P t) w := by
  unfold isAgg aggP
  rw [h]
  simp only [Sem.run_bind, run_underlying h, Result.andThen_ok]
  cases d <;> rfl
theorem did_const_row (R : Rel w0 foot omut σ tmps c) {a : Act} (ha : a.tmps = tmps) {o : Oper} (hd : ∀ d, o.dst = some d → d < tmps.size) (hop : o.op = .move (.const (.slice none 0 0)) ∨ o.op = .assign (.const (.slice none 0 0))) (b : Id) (e : Nat) (h0 : 0 < szP P e) :
    Did P w0 foot omut σ c o a ⟨.own b ((σ.m b).ver + 1) 0, [], [mkB σ.m b (.rows true e (szP P e) [])]⟩ := by
  refine Did.turn R ha hd b _ _ (.slice none 0 0) c.w none (szP P e) (.inl ?_) (by rw [R.ver b]; omega) (fun q => by have := R.ver b; omega) rfl rfl rfl (Nat.le_refl _) (fun _ _ _ => rfl) (fun g cap q => by cases q) (fun d _ _ h3 h4 _ _ => .none true e _ h4 h0 h3) (fun d _ _ h3 h4 h5 _ => .own _ _ _ _ rfl (by rw [h5]; exact Nat.le_refl _) (fun _ => .inl ⟨h3, rfl, rfl⟩))
  rcases hop with h | h <;> simp [execOp, h, Act.eval]
theorem did_move (R : Rel w0 foot omut σ tmps c) {a : Act} (ha : a.tmps = tmps) {o : Oper} (hd : ∀ d, o.dst = some d → d < tmps.size) {x : Operand} (hop : o.op = .move x ∨ o.op = .assign x) : Did P w0 foot omut σ c o a ⟨σ.ev x, [], []⟩ := by
  refine Did.val R ha hd (R.ev ha x) ?_
  rcases hop with h | h <;> simp [execOp, h]
theorem bool_of {d : Cx} {x : PV} {b : Bool} {u : Value} (h : RelV d x u) (hb : boolOfP x = some b) : u = .bool b := by
  cases h <;> simp [boolOfP] at hb
  subst hb; rfl
theorem int_of {d : Cx} {x : PV} {n : Int} {u : Value} (h : RelV d x u) (hb : intOfP x = some n) : ∃ k, u = .int k n := by
  cases h <;> simp [intOfP] at hb
  subst hb; exact ⟨_, rfl⟩
theorem did_pick (R : Rel w0 foot omut σ tmps c) {a : Act} (ha : a.tmps = tmps) {o : Oper} (hd : ∀ d, o.dst = some d → d < tmps.size) {x y z : Operand} (hop : o.op = .pick x y z) {t : Bool} (ht : boolOfP (σ.ev x) = some t) :
    Did P w0 foot omut σ c o a ⟨if t then σ.ev y else σ.ev z, [], []⟩ := by
  have h := bool_of (R.ev ha x) ht
  cases t
  · exact Did.val R ha hd (R.ev ha z) (by simp [execOp, hop, h, asBool])
  · exact Did.val R ha hd (R.ev ha y) (by simp [execOp, hop, h, asBool])
theorem did_alloc (R : Rel w0 foot omut σ tmps c) {a : Act} (ha : a.tmps = tmps) {o : Oper} (hd : ∀ d, o.dst = some d → d < tmps.size) {t : Nat} (hop : o.op = .alloc t) (b : Id) {zs : List Value} (hz : zeroP P t = some zs) (h0 : 0 < zs.length) (h1 : zs.all (fun z => (pvc z).one) = true) :
    Did P w0 foot omut σ c o a ⟨.ptr b ((σ.m b).ver + 1) 0 0, [], [mkB σ.m b (.rows false t zs.length [zs.map pvc])]⟩ := by
  obtain ⟨i, z, hi, hiz, hzs⟩ := zero_info hz
  refine Did.new R ha hd b _ (.pointer (some ⟨c.w.heap.size, 0, none⟩)) (.cells z.cells t) 1 zs.length ?_ ?_ ?_
  · simp [execOp, hop, Instr.alloc, zeroValue, typeInfo, hi, hiz, newVar, newRow]
  · intro d hw hb ha' hs hv hle
    refine .rows false t _ _ c.w.heap.size 1 z.cells hs h0 ha' (.inl (by rw [hb]; exact R.bs)) (by rw [hw]; exact heap_alloc_new _ _) (by simp) (by decide) ⟨by rw [← hzs]; simp, fun _ => by rw [← hzs]; simp⟩ ?_ ?_ ?_
    · intro i row h
      match i, h with
      | 0, h => cases h; simp
    · intro i row j x h hx
      match i, h with
      | 0, h =>
        cases h
        rw [List.getElem?_map] at hx
        cases hq : zs[j]? with
        | none => rw [hq] at hx; cases hx
        | some q =>
          rw [hq] at hx
          cases hx
          exact ⟨List.all_eq_true.1 h1 q (List.mem_of_getElem? hq), fun e => by cases e⟩
    · intro i row j x h hx
      match i, h with
      | 0, h =>
        cases h
        rw [List.getElem?_map] at hx
        cases hq : zs[j]? with
        | none => rw [hq] at hx; cases hx
        | some q =>
          rw [hq] at hx
          cases hx
          refine ⟨q, ?_, RelV.toPvc d q⟩
          rw [← hzs] at hq
          simpa using hq
  · exact fun d ha' hs hv => .ptr _ _ _ _ _ rfl (by rw [hv]; exact Nat.le_refl _) (fun _ => ⟨_, _, ha', by simp⟩)
theorem did_box (R : Rel w0 foot omut σ tmps c) {a : Act} (ha : a.tmps = tmps) {o : Oper} (hd : ∀ d, o.dst = some d → d < tmps.size) {t : Nat} {x : Operand} (hop : o.op = .box t x) (b : Id) (h0 : 0 < (σ.ev x).cells.length) (h1 : (σ.ev x).cells.all PV.one = true) :
    Did P w0 foot omut σ c o a ⟨.ptr b ((σ.m b).ver + 1) 0 0, [], [mkB σ.m b (.rows false t (σ.ev x).cells.length [(σ.ev x).cells])]⟩ := by
  obtain ⟨c1, c2, c3⟩ := cells_rel (R.ev ha x) h1
  refine Did.new R ha hd b _ (.pointer (some ⟨c.w.heap.size, 0, none⟩)) (.cells (a.eval x).cells t) 1 (σ.ev x).cells.length ?_ ?_ ?_
  · simp [execOp, hop, Instr.box, newVar, newRow]
  · intro d hw hb ha' hs hv hle
    refine .rows false t _ _ c.w.heap.size 1 (a.eval x).cells hs h0 ha' (.inl (by rw [hb]; exact R.bs)) (by rw [hw]; exact heap_alloc_new _ _) (by simp) (by decide) ⟨by rw [c1]; simp, fun _ => by rw [c1]; simp⟩ ?_ ?_ ?_
    · intro i row h
      match i, h with
      | 0, h => cases h; simp
    · intro i row j y h hy
      match i, h with
      | 0, h => cases h; exact ⟨List.all_eq_true.1 h1 _ (List.mem_of_getElem? hy), fun e => by cases e⟩
    · intro i row j y h hy
      match i, h with
      | 0, h =>
        cases h
        obtain ⟨z, hz, hr⟩ := c2 j y hy
        exact ⟨z, by simpa using hz, hr.le hle⟩
  · exact fun d ha' hs hv => .ptr _ _ _ _ _ rfl (by rw [hv]; exact Nat.le_refl _) (fun _ => ⟨_, _, ha', by simp⟩)
end
end Go.Proofs.Ev
namespace Go.Proofs.Ev
open Go Go.RowKit
set_option linter.unusedVariables false
set_option linter.unusedSimpArgs false
section
variable {P : Program} {w0 : World} {foot omut : Nat → Prop} {σ : St} {tmps : Array Value} {c : Cx}
theorem cell_block {w : World} {g o : Nat} {cur : Array Value} {e : Nat} (h : w.heap[g]? = some (.cells cur e (0, 0))) : w.cell? ⟨g, o, none⟩ = cur[o]? := by
  unfold World.cell?
  simp [h]
/-- Cells that lie one behind the other, read as a type's value. -/
theorem run_loadRow {t : Nat} {row : List PV} {o : Nat} {x : PV} (hx : loadRow P t row o = some x) (ht : knownP P t = true) (w : World) (hw : w = c.w) (g off : Nat) (hc : ∀ j y, row[j]? = some y → ∃ u, w.cell? ⟨g, off + j, none⟩ = some u ∧ RelV c y u) :
    ∃ u, (Instr.loadAt t (.pointer (some ⟨g, off + o, none⟩))).run P w = .ok u w ∧ RelV c x u := by
  unfold knownP at ht
  rw [Bool.and_eq_true] at ht
  obtain ⟨i, hi⟩ := Option.isSome_iff_exists.1 ht.1
  obtain ⟨d, hd⟩ := Option.isSome_iff_exists.1 ht.2
  have hs : szP P t = i.size := by unfold szP; rw [hi]; rfl
  unfold loadRow at hx
  by_cases ha : aggP P t = true
  · rw [if_pos ha] at hx
    split at hx
    · rename_i hle
      cases hx
      rw [hs] at hle ⊢
      have hex : ∀ j, j < i.size → ∃ u, w.cell? ⟨g, off + o + j, none⟩ = some u ∧ ∀ y, row[o + j]? = some y → RelV c y u := by
        intro j hj
        obtain ⟨u, h1, h2⟩ := hc (o + j) row[o + j] (List.getElem?_eq_getElem (by omega))
        refine ⟨u, by rw [← h1]; congr 2; omega, fun y hy => ?_⟩
        rw [List.getElem?_eq_getElem (by omega)] at hy
        cases hy; exact h2
      let f : Nat → Value := fun j => if h : j < i.size then Classical.choose (hex j h) else .bool false
      have hf : ∀ j, (hj : j < i.size) → w.cell? ⟨g, off + o + j, none⟩ = some (f j) ∧ ∀ y, row[o + j]? = some y → RelV c y (f j) := by
        intro j hj
        simp only [f, hj, dif_pos]
        exact Classical.choose_spec (hex j hj)
      let us := (List.range i.size).map f
      have hus : us.length = i.size := by simp [us]
      have hl := run_loadCells_list (P := P) w ⟨g, off + o, none⟩ us (fun j v hv => by
        have hj : j < i.size := by rw [← hus]; exact (List.getElem?_eq_some_iff.1 hv).1
        have : v = f j := by simp [us, hj] at hv; exact hv.symm
        rw [this, ← (hf j hj).1]
        unfold Addr.add
        split
        · rename_i h0; subst h0; rfl
        · rfl)
      rw [hus] at hl
      refine ⟨.agg us.toArray, ?_, ?_⟩
      · simp [Instr.loadAt, Instr.sureAddr, loadVar, run_isAgg w hd, ha, sizeOf, typeInfo, hi, hl]
      · refine .agg _ us (by simp [hus]; omega) (fun j y u hy hu => ?_)
        have hj : j < i.size := by rw [← hus]; exact (List.getElem?_eq_some_iff.1 hu).1
        have : u = f j := by simp [us, hj] at hu; exact hu.symm
        rw [this]
        refine (hf j hj).2 y ?_
        rw [List.getElem?_take, if_pos hj, List.getElem?_drop] at hy
        exact hy
    · cases hx
  · rw [if_neg ha] at hx
    obtain ⟨u, h1, h2⟩ := hc o x hx
    refine ⟨u, ?_, h2⟩
    have ha' : aggP P t = false := by simpa using ha
    simp [Instr.loadAt, Instr.sureAddr, loadVar, run_isAgg w hd, ha', h1]
theorem look_live {m : Id → Blk} {b : Id} {v : Nat} {x : Cont} (h : look m b v = some x) : (m b).ver = v ∧ (m b).live = some x := by
  unfold look at h
  split at h
  · rename_i e; exact ⟨e, h⟩
  · cases h
/-- A pointer into a block: where it points. -/
theorem ptr_at (R : Rel w0 foot omut σ tmps c) {b : Id} {v i o : Nat} {u : Value} (h : RelV c (.ptr b v i o) u) {fl : Bool} {e sz : Nat} {rs : List (List PV)} (hl : look σ.m b v = some (.rows fl e sz rs)) (hi : i < rs.length) :
    ∃ g cap cur, c.at_ b = some (g, cap) ∧ c.sz b = sz ∧ u = .pointer (some ⟨g, i * sz + o, none⟩) ∧ c.w.heap[g]? = some (.cells cur e (0, 0)) ∧ rs.length ≤ cap ∧ cap ≤ maxLen ∧ (cap * sz ≤ cur.size ∧ (fl = false → cur.size = rs.length * sz)) ∧ 0 < sz ∧ (∀ (i : Nat) (row : List PV), rs[i]? = some row → row.length = sz) ∧
      (∀ (i : Nat) (row : List PV) (j : Nat) (x : PV), rs[i]? = some row → row[j]? = some x → x.one = true ∧ (fl = true → x.sf = true)) ∧ (∀ (i : Nat) (row : List PV) (j : Nat) (x : PV), rs[i]? = some row → row[j]? = some x → ∃ u, cur[i * sz + j]? = some u ∧ RelV c x u) ∧ (c.base ≤ g ∨ foot g) := by
  obtain ⟨l1, l2⟩ := look_live hl
  cases h with
  | ptr b v i o u h1 hv h =>
    obtain ⟨g, cap, ha, hu⟩ := h (by rw [R.ver b]; exact l1.symm)
    have hB := R.mem b _ l2
    cases hB with
    | none fl e sz hz h0 ha' => simp at hi
    | rows fl e sz rs g' cap' cur hz h0 ha' ho hh hn hm hs hl' h1' hr =>
      rw [ha'] at ha
      cases ha
      exact ⟨g, cap, cur, ha', hz, by rw [hu, hz], hh, hn, hm, hs, h0, hl', h1', hr, ho⟩
theorem did_load (R : Rel w0 foot omut σ tmps c) {a : Act} (ha : a.tmps = tmps) {o : Oper} (hd : ∀ d, o.dst = some d → d < tmps.size) {t : Nat} {x : Operand} (hop : o.op = .load t x) (ht : knownP P t = true) {b : Id} {v i f : Nat} (hx : σ.ev x = .ptr b v i f) {fl : Bool} {e sz : Nat} {rs : List (List PV)} (hl : look σ.m b v = some (.rows fl e sz rs)) {row : List PV} (hrow : rs[i]? = some row) {y : PV} (hy : loadRow P t row f = some y) (lk : List Id) :
    Did P w0 foot omut σ c o a ⟨y, lk, []⟩ := by
  have hi : i < rs.length := (List.getElem?_eq_some_iff.1 hrow).1
  obtain ⟨g, cap, cur, h1, h2, h3, h4, h5, h6, h7, h8, h9, h10, h11, h12⟩ := ptr_at R (hx ▸ R.ev ha x) hl hi
  obtain ⟨u, r1, r2⟩ := run_loadRow (c := c) hy ht c.w rfl g (i * sz) (fun j y hy => by obtain ⟨u, p, q⟩ := h11 i row j y hrow hy; exact ⟨u, (cell_block h4).trans p, q⟩)
  exact Did.val R ha hd r2 (by simp [execOp, hop, h3, r1])
theorem did_loadR (R : Rel w0 foot omut σ tmps c) {a : Act} (ha : a.tmps = tmps) {o : Oper} (hd : ∀ d, o.dst = some d → d < tmps.size) {t : Nat} {x : Operand} (hop : o.op = .load t x) (ht : knownP P t = true) {row : List PV} {f : Nat} (hx : σ.ev x = .rp row f) {y : PV} (hy : loadRow P t row f = some y) (lk : List Id) :
    Did P w0 foot omut σ c o a ⟨y, lk, []⟩ := by
  have h := hx ▸ R.ev ha x
  generalize hu : a.eval x = u at h
  cases h with
  | rp row f ad ff hs hm hf hb hc h =>
    obtain ⟨u, r1, r2⟩ := run_loadRow (c := c) hy ht c.w rfl ad.block ad.off (fun j y hy => ⟨ff j, hc j y hy, h j y hy⟩)
    exact Did.val R ha hd r2 (by simp [execOp, hop, hu, r1])
theorem splice_get (row : List PV) (o : Nat) (cs : List PV) (h : o + cs.length ≤ row.length) (j : Nat) : (splice row o cs)[j]? = if j < o then row[j]? else if j < o + cs.length then cs[j - o]? else row[j]? := by
  unfold splice
  have hl : (row.take o).length = o := by simp; omega
  by_cases h1 : j < o
  · rw [if_pos h1, List.append_assoc, List.getElem?_append_left (by omega), List.getElem?_take, if_pos h1]
  · rw [if_neg h1]
    by_cases h2 : j < o + cs.length
    · rw [if_pos h2, List.append_assoc, List.getElem?_append_right (by omega), hl, List.getElem?_append_left (by omega)]
    · rw [if_neg h2, List.append_assoc, List.getElem?_append_right (by omega), hl, List.getElem?_append_right (by omega), List.getElem?_drop]
      congr 1
      omega
theorem splice_len (row : List PV) (o : Nat) (cs : List PV) (h : o + cs.length ≤ row.length) : (splice row o cs).length = row.length := by
  unfold splice
  simp
  omega
end
end Go.Proofs.Ev
namespace Go.Proofs.Ev
open Go Go.RowKit
set_option linter.unusedVariables false
set_option linter.unusedSimpArgs false
section
variable {P : Program} {w0 : World} {foot omut : Nat → Prop} {σ : St} {tmps : Array Value} {c : Cx}
theorem mid_get {α : Type} (l m : List α) (o : Nat) (h : o + m.length ≤ l.length) (j : Nat) : (l.take o ++ m ++ l.drop (o + m.length))[j]? = if j < o then l[j]? else if j < o + m.length then m[j - o]? else l[j]? := by
  have hl : (l.take o).length = o := by simp; omega
  by_cases h1 : j < o
  · rw [if_pos h1, List.append_assoc, List.getElem?_append_left (by omega), List.getElem?_take, if_pos h1]
  · rw [if_neg h1]
    by_cases h2 : j < o + m.length
    · rw [if_pos h2, List.append_assoc, List.getElem?_append_right (by omega), hl, List.getElem?_append_left (by omega)]
    · rw [if_neg h2, List.append_assoc, List.getElem?_append_right (by omega), hl, List.getElem?_append_right (by omega), List.getElem?_drop]
      congr 1
      omega
theorem row_in {i k sz j q : Nat} (hk : k < sz) (h : i * sz + k = j * sz + q) (hq : q < sz) : i = j ∧ k = q := by
  have h0 : 0 < sz := by omega
  have e1 : (i * sz + k) / sz = i := by rw [Nat.add_comm, Nat.mul_comm, Nat.add_mul_div_left _ _ h0, Nat.div_eq_of_lt hk, Nat.zero_add]
  have e2 : (j * sz + q) / sz = j := by rw [Nat.add_comm, Nat.mul_comm, Nat.add_mul_div_left _ _ h0, Nat.div_eq_of_lt hq, Nat.zero_add]
  have : i = j := by rw [← e1, ← e2, h]
  subst this
  exact ⟨rfl, by omega⟩
theorem row_fit {i sz k cap : Nat} (hi : i < cap) (hk : k ≤ sz) : i * sz + k ≤ cap * sz := by
  have : (i + 1) * sz ≤ cap * sz := Nat.mul_le_mul_right _ hi
  rw [Nat.add_mul] at this
  omega
theorem did_store (R : Rel w0 foot omut σ tmps c) {a : Act} (ha : a.tmps = tmps) {o : Oper} (hd : ∀ d, o.dst = some d → d < tmps.size) {t : Nat} {x y : Operand} (hop : o.op = .store t x y) (ht : knownP P t = true) {b : Id} {v i f : Nat} (hx : σ.ev x = .ptr b v i f) {fl : Bool} {e sz : Nat} {rs : List (List PV)} (hl : look σ.m b v = some (.rows fl e sz rs)) {row : List PV} (hrow : rs[i]? = some row)
    (h1 : (σ.ev y).cells.length = szP P t) (h2 : f + (σ.ev y).cells.length ≤ row.length) (h3 : (σ.ev y).cells.all PV.one = true) (h3f : fl = true → (σ.ev y).cells.all PV.sf = true) (lk : List Id) :
    Did P w0 foot omut σ c o a ⟨.dead, lk, [(b, ⟨v, some (.rows fl e sz (rs.set i (splice row f (σ.ev y).cells)))⟩)]⟩ := by
  have hi : i < rs.length := (List.getElem?_eq_some_iff.1 hrow).1
  obtain ⟨g, cap, cur, g1, g2, g3, g4, g5, g6, g7, g8, g9, g10, g11, g12⟩ := ptr_at R (hx ▸ R.ev ha x) hl hi
  obtain ⟨l1, l2⟩ := look_live hl
  obtain ⟨c1, c2, c3⟩ := cells_rel (R.ev ha y) h3
  have hrl := g9 i row hrow
  unfold knownP at ht
  rw [Bool.and_eq_true] at ht
  obtain ⟨inf, hinf⟩ := Option.isSome_iff_exists.1 ht.1
  have hs : szP P t = inf.size := by unfold szP; rw [hinf]; rfl
  have hcl : (a.eval y).cells.toList.length = (σ.ev y).cells.length := by rw [Array.length_toList]; exact c1
  have hfit : i * sz + f + (a.eval y).cells.toList.length ≤ cur.size := by
    rw [hcl]
    refine Nat.le_trans ?_ g7.1
    have := @row_fit i sz (f + (σ.ev y).cells.length) cap (by omega) (by omega)
    omega
  have hrun := run_storeCells_at P g (i * sz + f) e (a.eval y).cells.toList 0 cur c.w g4 (by simpa using hfit) (fun z hz => by
    obtain ⟨j, hj⟩ := List.mem_iff_getElem?.1 hz
    exact c3 j z (by simpa using hj))
  simp only [Nat.add_zero] at hrun
  refine Did.turn R ha hd b v _ undef (c.w.setRow g (cur.toList.take (i * sz + f) ++ (a.eval y).cells.toList ++ cur.toList.drop (i * sz + f + (a.eval y).cells.toList.length)).toArray) (c.at_ b) (c.sz b) (.inr ⟨?_, rfl⟩) (by rw [R.ver b]; omega) (fun _ => ⟨rfl, rfl⟩) rfl rfl rfl (by simp) ?_ ?_ ?_ (fun d _ _ _ _ _ _ => .dead _)
  · have hne : ¬ (a.eval y).cells.size ≠ inf.size := by rw [c1, h1, hs]; simp
    have hrun' := hrun
    simp only [Array.length_toList] at hrun'
    simp [execOp, hop, Instr.storeAt, Instr.sureAddr, g3, storeVar, sizeOf, typeInfo, hinf, hne, hrun']
  · intro k hk hno
    exact setRow_other _ _ _ _ (fun q => by subst q; exact hno _ cap l2 g1)
  · intro g' cap' q
    exact .inr ⟨_, cap', l2, q⟩
  · intro d hw hb hat hsz hver hle
    have hlen : (cur.toList.take (i * sz + f) ++ (a.eval y).cells.toList ++ cur.toList.drop (i * sz + f + (a.eval y).cells.toList.length)).length = cur.size := by
      simp only [List.length_append, List.length_take, List.length_drop, Array.length_toList]
      rw [Array.length_toList] at hfit
      omega
    have hget : ∀ j, (cur.toList.take (i * sz + f) ++ (a.eval y).cells.toList ++ cur.toList.drop (i * sz + f + (a.eval y).cells.toList.length)).toArray[j]? = if j < i * sz + f then cur[j]? else if j < i * sz + f + (σ.ev y).cells.length then (a.eval y).cells[j - (i * sz + f)]? else cur[j]? := by
      intro j
      rw [List.getElem?_toArray, mid_get _ _ _ (by rw [Array.length_toList]; exact hfit), hcl]
      simp
    refine .rows fl e sz _ g cap _ (hsz.trans g2) g8 (hat.trans g1) (by rw [hb]; exact g12) (by rw [hw]; exact setRow_heap _ _ _ _ _ _ g4) (by simpa using g5) g6 ⟨by rw [List.size_toArray, hlen]; exact g7.1, fun h => by rw [List.size_toArray, hlen, List.length_set]; exact g7.2 h⟩ ?_ ?_ ?_
    · intro j r hr
      by_cases e1 : i = j
      · subst e1
        rw [List.getElem?_set_self hi] at hr
        cases hr; rw [splice_len _ _ _ h2]; exact hrl
      · rw [List.getElem?_set_ne e1] at hr
        exact g9 j r hr
    · intro j r q z hr hz
      by_cases e1 : i = j
      · subst e1
        rw [List.getElem?_set_self hi] at hr
        cases hr
        rw [splice_get _ _ _ h2] at hz
        split at hz
        · exact g10 i row q z hrow hz
        · split at hz
          · exact ⟨List.all_eq_true.1 h3 z (List.mem_of_getElem? hz), fun q => List.all_eq_true.1 (h3f q) z (List.mem_of_getElem? hz)⟩
          · exact g10 i row q z hrow hz
      · rw [List.getElem?_set_ne e1] at hr
        exact g10 j r q z hr hz
    · intro j r q z hr hz
      rw [hget]
      by_cases e1 : i = j
      · subst e1
        rw [List.getElem?_set_self hi] at hr
        cases hr
        have hq : q < sz := by
          have := (List.getElem?_eq_some_iff.1 hz).1
          rw [splice_len _ _ _ h2] at this
          omega
        rw [splice_get _ _ _ h2] at hz
        by_cases a1 : q < f
        · rw [if_pos a1] at hz
          rw [if_pos (by omega)]
          obtain ⟨u, p1, p2⟩ := g11 i row q z hrow hz
          exact ⟨u, p1, p2.le hle⟩
        · rw [if_neg a1] at hz
          rw [if_neg (by omega)]
          by_cases a2 : q < f + (σ.ev y).cells.length
          · rw [if_pos a2] at hz
            rw [if_pos (by omega)]
            obtain ⟨u, p1, p2⟩ := c2 _ z hz
            exact ⟨u, by rw [← p1]; congr 1; omega, p2.le hle⟩
          · rw [if_neg a2] at hz
            rw [if_neg (by omega)]
            obtain ⟨u, p1, p2⟩ := g11 i row q z hrow hz
            exact ⟨u, p1, p2.le hle⟩
      · rw [List.getElem?_set_ne e1] at hr
        obtain ⟨u, p1, p2⟩ := g11 j r q z hr hz
        have hq : q < sz := by
          have := (List.getElem?_eq_some_iff.1 hz).1
          rw [g9 j r hr] at this
          exact this
        have hf : f < sz ∨ (σ.ev y).cells.length = 0 ∨ f = sz := by omega
        refine ⟨u, ?_, p2.le hle⟩
        rw [← p1]
        by_cases b1 : j * sz + q < i * sz + f
        · rw [if_pos b1]
        · rw [if_neg b1]
          by_cases b2 : j * sz + q < i * sz + f + (σ.ev y).cells.length
          · exfalso
            obtain ⟨k, hk⟩ : ∃ k, j * sz + q = i * sz + k := ⟨j * sz + q - i * sz, by omega⟩
            have := row_in (i := j) (k := q) (j := i) (q := k) hq hk (by omega)
            exact e1 this.1.symm
          · rw [if_neg b2]
theorem did_nilCheck (R : Rel w0 foot omut σ tmps c) {a : Act} (ha : a.tmps = tmps) {o : Oper} (hd : ∀ d, o.dst = some d → d < tmps.size) {x : Operand} (hop : o.op = .nilCheck x) {y : PV} (hx : σ.ev x = y) (hy : (∃ b v i f rs fl e sz, y = .ptr b v i f ∧ look σ.m b v = some (.rows fl e sz rs) ∧ i < rs.length) ∨ ∃ r f, y = .rp r f) (lk : List Id) : Did P w0 foot omut σ c o a ⟨y, lk, []⟩ := by
  have h := R.ev ha x
  rw [hx] at h
  rcases hy with ⟨b, v, i, f, rs, fl, e, sz, rfl, hl, hi⟩ | ⟨r, f, rfl⟩
  · obtain ⟨g, cap, cur, g1, g2, g3, _⟩ := ptr_at R h hl hi
    refine Did.val R ha hd h ?_
    simp [execOp, hop, g3]
  · generalize hu : a.eval x = u at h
    refine Did.val R ha hd h ?_
    cases h
    simp [execOp, hop, hu]
theorem did_fieldAddr (R : Rel w0 foot omut σ tmps c) {a : Act} (ha : a.tmps = tmps) {o : Oper} (hd : ∀ d, o.dst = some d → d < tmps.size) {s f : Nat} {x : Operand} (hop : o.op = .fieldAddr s x f) {off ft : Nat} (hf : offP P s f = some (off, ft)) (hz : szP P ft ≠ 0) {b : Id} {v i q : Nat} (hx : σ.ev x = .ptr b v i q) {fl : Bool} {e sz : Nat} {rs : List (List PV)} (hl : look σ.m b v = some (.rows fl e sz rs)) (hi : i < rs.length) (lk : List Id) :
    Did P w0 foot omut σ c o a ⟨.ptr b v i (q + off), lk, []⟩ := by
  obtain ⟨fs, y, u1, u2, u3, u4⟩ := off_under hf
  have h := hx ▸ R.ev ha x
  obtain ⟨g, cap, cur, g1, g2, g3, _⟩ := ptr_at R h hl hi
  obtain ⟨inf, hinf, hsz⟩ := size_info (P := P) (t := ft) rfl (by omega)
  have hn0 : ¬ inf.size = 0 := by omega
  have hl1 := (look_live hl).1
  refine Did.val R ha hd (u := .pointer (some ⟨g, i * sz + (q + off), none⟩)) (.ptr _ _ _ _ _ rfl (by rw [R.ver b]; omega) (fun _ => ⟨g, cap, g1, by rw [g2]⟩)) ?_
  have hadd : (⟨g, i * sz + q, none⟩ : Addr).add off = ⟨g, i * sz + (q + off), none⟩ := by
    unfold Addr.add
    split
    · rename_i h0; subst h0; simp
    · simp; omega
  simp [execOp, hop, Instr.fieldAt, run_underlying u1, u2, g3, Instr.sureAddr, fieldPlace, sizeOf, typeInfo, u4, hinf, hn0, u3, hadd]
theorem did_fieldAddrR (R : Rel w0 foot omut σ tmps c) {a : Act} (ha : a.tmps = tmps) {o : Oper} (hd : ∀ d, o.dst = some d → d < tmps.size) {s f : Nat} {x : Operand} (hop : o.op = .fieldAddr s x f) {off ft : Nat} (hf : offP P s f = some (off, ft)) (hz : szP P ft ≠ 0) {row : List PV} {q : Nat} (hx : σ.ev x = .rp row q) (lk : List Id) :
    Did P w0 foot omut σ c o a ⟨.rp row (q + off), lk, []⟩ := by
  obtain ⟨fs, y, u1, u2, u3, u4⟩ := off_under hf
  have h := hx ▸ R.ev ha x
  obtain ⟨inf, hinf, hsz⟩ := size_info (P := P) (t := ft) rfl (by omega)
  have hn0 : ¬ inf.size = 0 := by omega
  generalize hu : a.eval x = u at h
  cases h with
  | rp row q ad ff hs hm hf' hb hc h =>
    refine Did.val R ha hd (.rp row (q + off) ad ff hs hm hf' hb hc h) ?_
    have hadd : (⟨ad.block, ad.off + q, none⟩ : Addr).add off = ⟨ad.block, ad.off + (q + off), none⟩ := by
      unfold Addr.add
      split
      · rename_i h0; subst h0; simp
      · simp; omega
    simp [execOp, hop, Instr.fieldAt, run_underlying u1, u2, hu, Instr.sureAddr, fieldPlace, sizeOf, typeInfo, u4, hinf, hn0, u3, hadd]
end
end Go.Proofs.Ev
namespace Go.Proofs.Ev
open Go Go.RowKit
set_option linter.unusedVariables false
set_option linter.unusedSimpArgs false
section
variable {P : Program} {w0 : World} {foot omut : Nat → Prop} {σ : St} {tmps : Array Value} {c : Cx}
theorem run_binI {op : BinOp} {k j : IntKind} {a b : Int} {r : PV} (h : binI op k a b = some r) (hk : k = j ∨ op = .shl ∨ op = .shr) (t : Nat) (w : World) : ∃ u, (binOp op t (.int k a) (.int j b)).run P w = .ok u w ∧ ∀ d, RelV d r u := by
  have e1 : k = j ∨ op = .shl ∨ op = .shr := hk
  unfold binI at h
  cases op
  case shl =>
    simp only at h
    split at h
    · cases h
    · rename_i hb; cases h; exact ⟨_, by simp only [binOp, Op.shift]; rw [if_neg hb]; rfl, fun d => .int _ _⟩
  case shr =>
    simp only at h
    split at h
    · cases h
    · rename_i hb; cases h; exact ⟨_, by simp only [binOp, Op.shift]; rw [if_neg hb]; rfl, fun d => .int _ _⟩
  all_goals obtain rfl : k = j := by simpa using e1
  case quo =>
    simp only at h
    split at h
    · cases h
    · rename_i hb; cases h; exact ⟨_, by simp only [binOp, Op.intDiv]; rw [if_neg (by simp), if_neg hb]; rfl, fun d => .int _ _⟩
  case rem =>
    simp only at h
    split at h
    · cases h
    · rename_i hb; cases h; exact ⟨_, by simp only [binOp, Op.intDiv]; rw [if_neg (by simp), if_neg hb]; rfl, fun d => .int _ _⟩
  all_goals cases h
  all_goals first
    | exact ⟨_, by simp only [binOp, Op.intArith, Op.intBits]; rw [if_neg (by simp)]; rfl, fun d => .int _ _⟩
    | exact ⟨_, by simp only [binOp, Op.intCmp]; rw [if_neg (by simp)]; rfl, fun d => .bool _⟩
theorem run_binS {op : BinOp} {a b : ByteArray} {r : PV} (h : binS op a b = some r) (t : Nat) (w : World) : ∃ u, (binOp op t (.string a) (.string b)).run P w = .ok u w ∧ ∀ d, RelV d r u := by
  unfold binS at h
  cases op <;> simp only [Option.some.injEq] at h <;> (try cases h)
  case add =>
    split at h
    · rename_i hs
      cases h
      refine ⟨.string (a ++ b), ?_, fun d => .str _⟩
      have : ¬ (((a.size + b.size : Nat) : Int) > IntKind.i64.max) := by
        have e : IntKind.i64.max = 9223372036854775807 := by decide
        rw [e]; omega
      simp only [binOp, Op.stringOp]
      rw [if_neg this]
      rfl
    · cases h
  all_goals exact ⟨_, by simp [binOp, Op.stringOp], fun d => .bool _⟩
theorem run_binF {op : BinOp} {x y r : PV} {u v : Value} (hx : RelV c x u) (hy : RelV c y v) (h : binF op x y = some r) (t : Nat) (X Y : Operand) (w : World) :
    ∃ z, (do eqGuard op t X Y u v; binOp op t u v : Sem Value).run P w = .ok z w ∧ ∀ d, RelV d r z := by
  have hgi : ∀ k a j b, (eqGuard op t X Y (.int k a) (.int j b)).run P w = .ok () w := by intros; cases op <;> rfl
  have hgs : ∀ a b, (eqGuard op t X Y (.string a) (.string b)).run P w = .ok () w := by intros; cases op <;> rfl
  unfold binF at h
  split at h
  · rename_i k a j b
    split at h
    · rename_i hk
      cases hx
      cases hy
      obtain ⟨z, h1, h2⟩ := run_binI (P := P) h hk t w
      refine ⟨z, ?_, h2⟩
      simp only [Sem.run_bind, hgi, Result.andThen_ok, h1]
    · cases h
  · rename_i a b
    cases hx
    cases hy
    obtain ⟨z, h1, h2⟩ := run_binS (P := P) h t w
    refine ⟨z, ?_, h2⟩
    simp only [Sem.run_bind, hgs, Result.andThen_ok, h1]
  · cases h
theorem bind_some' {α β : Type} {x : Option α} {f : α → Option β} {y : β} (h : x.bind f = some y) : ∃ a, x = some a ∧ f a = some y := by
  cases x with
  | none => cases h
  | some a => exact ⟨a, rfl, h⟩
theorem map_some' {α β : Type} {x : Option α} {f : α → β} {y : β} (h : x.map f = some y) : ∃ a, x = some a ∧ f a = y := by
  cases x with
  | none => cases h
  | some a => exact ⟨a, rfl, by simpa using h⟩
theorem run_eq1 {us vs : Array Value} {xs ys : List PV} (hx : RelV c (.agg xs) (.agg us)) (hy : RelV c (.agg ys) (.agg vs)) {o t : Nat} {r : Bool} (h : eq1 P t xs[o]? ys[o]? = some r) (d : Nat) (w : World) :
    ∃ a b, (part t us o).run P w = .ok a w ∧ (part t vs o).run P w = .ok b w ∧ (Op.equalIn (d + 1) t a b).run P w = .ok r w := by
  cases hx with
  | agg _ us hl1 h1 =>
  cases hy with
  | agg _ vs hl2 h2 =>
  have get : ∀ (zs : List PV) (ws : List Value) (x : PV), zs.length = ws.length → (∀ (i : Nat) (x : PV) (u : Value), zs[i]? = some x → ws[i]? = some u → RelV c x u) → zs[o]? = some x → ∃ u, ws[o]? = some u ∧ RelV c x u := by
    intro zs ws x hl hr hz
    have hi : o < ws.length := by rw [← hl]; exact (List.getElem?_eq_some_iff.1 hz).1
    exact ⟨ws[o], List.getElem?_eq_getElem hi, hr o x _ hz (List.getElem?_eq_getElem hi)⟩
  have pt : ∀ (ws : List Value) (u : Value) (desc : TypeDesc), P.underlying t = some desc → (desc = .string ∨ ∃ k, desc = .int k) → ws[o]? = some u → (part t ws.toArray o).run P w = .ok u w := by
    intro ws u desc hu hd hw
    have hn : ws.toArray[o]? = some u := by simpa using hw
    rcases hd with rfl | ⟨k, rfl⟩
    · simp [part, isAgg, run_underlying hu, hn]
    · simp [part, isAgg, run_underlying hu, hn]
  unfold eq1 at h
  split at h
  · rename_i k a j b e1 e2
    split at h
    · rename_i hk
      obtain ⟨rfl, hk⟩ := hk
      cases h
      obtain ⟨u, hu, ru⟩ := get _ _ _ hl1 h1 e1
      obtain ⟨v, hv, rv⟩ := get _ _ _ hl2 h2 e2
      cases ru
      cases rv
      have : ∃ k', P.underlying t = some (.int k') := by
        unfold intP at hk
        split at hk
        · rename_i k' hq; exact ⟨k', hq⟩
        · cases hk
      obtain ⟨k', hq⟩ := this
      exact ⟨_, _, pt us _ _ hq (.inr ⟨_, rfl⟩) hu, pt vs _ _ hq (.inr ⟨_, rfl⟩) hv, run_equalIn_int w d t k k' a b hq⟩
    · cases h
  · rename_i a b e1 e2
    split at h
    · rename_i hk
      cases h
      obtain ⟨u, hu, ru⟩ := get _ _ _ hl1 h1 e1
      obtain ⟨v, hv, rv⟩ := get _ _ _ hl2 h2 e2
      cases ru
      cases rv
      have hq : P.underlying t = some .string := by
        unfold strP at hk
        split at hk
        · rename_i hq; exact hq
        · cases hk
      exact ⟨_, _, pt us _ _ hq (.inl rfl) hu, pt vs _ _ hq (.inl rfl) hv, run_equalIn_string w d t a b hq⟩
    · cases h
  · cases h
theorem run_eqFs {us vs : Array Value} {xs ys : List PV} (hx : RelV c (.agg xs) (.agg us)) (hy : RelV c (.agg ys) (.agg vs)) (d : Nat) (w : World) : ∀ (fs : List Field) (r : Bool), (fs.all fun f => f.name != "_") = true → eqFs P xs ys (fs.map fun f => (f.offset, f.type)) = some r → (Op.eqFields (d + 1) us vs fs).run P w = .ok r w := by
  intro fs
  induction fs with
  | nil => intro r _ h; cases h; simp [Op.eqFields]
  | cons f fs ih =>
    intro r hn h
    rw [List.all_cons, Bool.and_eq_true] at hn
    have hn1 : f.name ≠ "_" := by simpa using hn.1
    rw [List.map_cons] at h
    obtain ⟨r1, h1, h⟩ := bind_some' h
    obtain ⟨r2, h2, rfl⟩ := map_some' h
    obtain ⟨a, b, p1, p2, p3⟩ := run_eq1 hx hy h1 d w
    simp only [Op.eqFields, ne_eq, hn1, not_false_eq_true, if_true, Sem.run_bind, p1, p2, p3, Result.andThen_ok]
    cases r1 with
    | false => simp
    | true => simpa using ih r2 hn.2 h2
theorem run_binE {op : BinOp} {x y r : PV} {u v : Value} {t : Nat} (hx : RelV c x u) (hy : RelV c y v) (h : binE P op t x y = some r) (X Y : Operand) (w : World) :
    ∃ z, (do eqGuard op t X Y u v; binOp op t u v : Sem Value).run P w = .ok z w ∧ ∀ d, RelV d r z := by
  unfold binE at h
  split at h
  · rename_i xs ys
    obtain ⟨l, hl, hq1⟩ := bind_some' h
    obtain ⟨b, hb, hq2⟩ := bind_some' hq1
    clear h hq1
    unfold fldP at hl
    split at hl
    · rename_i fs hfs
      split at hl
      · rename_i hc
        cases hl
        obtain ⟨c1, c2, c3⟩ := hc
        cases hx with
        | agg _ us hl1 h1 =>
        cases hy with
        | agg _ vs hl2 h2 =>
        have hfo : P.fieldsOf t = fs := by unfold Program.fieldsOf; rw [hfs]
        have hrun : (Op.equalIn 10000 t (.agg us.toArray) (.agg vs.toArray)).run P w = .ok b w := by
          rw [show (10000 : Nat) = 9999 + 1 from rfl, run_equalIn_agg w 9999 t us.toArray vs.toArray (by rw [hfo]; exact hfs) c2, hfo]
          exact run_eqFs (RelV.agg xs us hl1 h1) (RelV.agg ys vs hl2 h2) 9998 w fs.toList b c1 hb
        unfold eqB at hq2
        split at hq2
        · cases hq2
          refine ⟨.bool b, ?_, fun d => .bool _⟩
          rw [Sem.run_bind, run_eqGuard_agg w .eql t X Y _ _ c3, Result.andThen_ok, run_eql_struct, hrun]
          rfl
        · cases hq2
          refine ⟨.bool (!b), ?_, fun d => .bool _⟩
          rw [Sem.run_bind, run_eqGuard_agg w .neq t X Y _ _ c3, Result.andThen_ok, run_neq_struct, hrun]
          rfl
        · cases hq2
      · cases hl
    · cases hl
  · rename_i r0 rs
    split at h
    · rename_i hq
      cases hy
      cases hx with
      | ro _ A cap sz f hn hA hz hb hf hc hh =>
      cases A with
      | none => exact absurd (hA rfl).1 (by simp)
      | some ad =>
        have hel : ∃ e, P.underlying t = some (.slice e) := by
          unfold elP at hq
          split at hq
          · rename_i e he; exact ⟨e, he⟩
          · cases hq
        obtain ⟨e, he⟩ := hel
        have heq : (Op.equal t (.slice (some ad) (r0 :: rs).length cap) (.slice none 0 0)).run P w = .ok false w := by
          rw [show Op.equal t (.slice (some ad) (r0 :: rs).length cap) (.slice none 0 0) = Op.equalIn (9999 + 1) t (.slice (some ad) (r0 :: rs).length cap) (.slice none 0 0) from rfl]
          rw [Op.equalIn]
          simp only [Sem.run_bind, run_underlying he, Result.andThen_ok, Sem.run_pure]
        unfold eqB at h
        split at h
        · cases h
          refine ⟨.bool false, ?_, fun d => .bool _⟩
          simp only [eqGuard, binOp, Sem.run_bind, Sem.run_pure, Result.andThen_ok, heq, Bool.not_true, Bool.false_eq_true, if_false, Bool.not_false]
        · cases h
          refine ⟨.bool true, ?_, fun d => .bool _⟩
          simp only [eqGuard, binOp, Sem.run_bind, Sem.run_pure, Result.andThen_ok, heq, Bool.not_true, Bool.false_eq_true, if_false, Bool.not_false]
        · cases h
    · cases h
  · split at h
    · rename_i hq
      cases hy
      cases hx with
      | re ad cap =>
        have hel : ∃ e, P.underlying t = some (.slice e) := by
          unfold elP at hq
          split at hq
          · rename_i e he; exact ⟨e, he⟩
          · cases hq
        obtain ⟨e, he⟩ := hel
        have heq : (Op.equal t (.slice (some ad) 0 cap) (.slice none 0 0)).run P w = .ok false w := by
          rw [show Op.equal t (.slice (some ad) 0 cap) (.slice none 0 0) = Op.equalIn (9999 + 1) t (.slice (some ad) 0 cap) (.slice none 0 0) from rfl]
          rw [Op.equalIn]
          simp only [Sem.run_bind, run_underlying he, Result.andThen_ok, Sem.run_pure]
        unfold eqB at h
        split at h
        · cases h
          refine ⟨.bool false, ?_, fun d => .bool _⟩
          simp only [eqGuard, binOp, Sem.run_bind, Sem.run_pure, Result.andThen_ok, heq, Bool.not_true, Bool.false_eq_true, if_false, Bool.not_false]
        · cases h
          refine ⟨.bool true, ?_, fun d => .bool _⟩
          simp only [eqGuard, binOp, Sem.run_bind, Sem.run_pure, Result.andThen_ok, heq, Bool.not_true, Bool.false_eq_true, if_false, Bool.not_false]
        · cases h
    · cases h
  · split at h
    · rename_i hq
      cases hy
      cases hx
      have hel : ∃ e, P.underlying t = some (.slice e) := by
        unfold elP at hq
        split at hq
        · rename_i e he; exact ⟨e, he⟩
        · cases hq
      obtain ⟨e, he⟩ := hel
      have heq : (Op.equal t (.slice none 0 0) (.slice none 0 0)).run P w = .ok true w := by
        rw [show Op.equal t (.slice none 0 0) (.slice none 0 0) = Op.equalIn (9999 + 1) t (.slice none 0 0) (.slice none 0 0) from rfl]
        rw [Op.equalIn]
        simp [Sem.run_bind, run_underlying he, Result.andThen_ok, Sem.run_pure]
      unfold eqB at h
      split at h
      · cases h
        refine ⟨.bool true, ?_, fun d => .bool _⟩
        simp only [eqGuard, binOp, Sem.run_bind, Sem.run_pure, Result.andThen_ok, heq, Bool.not_true, Bool.false_eq_true, if_false, Bool.not_false]
      · cases h
        refine ⟨.bool false, ?_, fun d => .bool _⟩
        simp only [eqGuard, binOp, Sem.run_bind, Sem.run_pure, Result.andThen_ok, heq, Bool.not_true, Bool.false_eq_true, if_false, Bool.not_false]
      · cases h
    · cases h
  · rename_i p q
    split at h
    · rename_i hq
      cases hy
      cases hx
      have he : P.underlying t = some .bool := by
        unfold boolP at hq
        split at hq
        · rename_i he; exact he
        · cases hq
      have heq : (Op.equal t (.bool p) (.bool q)).run P w = .ok (p == q) w := by
        rw [show Op.equal t (.bool p) (.bool q) = Op.equalIn (9999 + 1) t (.bool p) (.bool q) from rfl]
        rw [Op.equalIn]
        simp [Sem.run_bind, run_underlying he, Result.andThen_ok, Sem.run_pure]
      unfold eqB at h
      split at h
      · cases h
        refine ⟨.bool (p == q), ?_, fun d => .bool _⟩
        simp [eqGuard, binOp, Sem.run_bind, Sem.run_pure, Result.andThen_ok, heq]
      · cases h
        refine ⟨.bool (!(p == q)), ?_, fun d => .bool _⟩
        simp [eqGuard, binOp, Sem.run_bind, Sem.run_pure, Result.andThen_ok, heq]
      · cases h
    · cases h
  · cases h
theorem run_binG {op : BinOp} {x y r : PV} {u v : Value} (hx : RelV c x u) (hy : RelV c y v) {t : Nat} (h : binG P op t x y = some r) (X Y : Operand) (w : World) :
    ∃ z, (do eqGuard op t X Y u v; binOp op t u v : Sem Value).run P w = .ok z w ∧ ∀ d, RelV d r z := by
  unfold binG at h
  split at h
  · rename_i q hq
    cases h
    exact run_binF hx hy hq t X Y w
  · exact run_binE hx hy h X Y w
theorem did_binOp (R : Rel w0 foot omut σ tmps c) {a : Act} (ha : a.tmps = tmps) {o : Oper} (hd : ∀ d, o.dst = some d → d < tmps.size) {op : BinOp} {t q : Nat} {x y : Operand} (hop : o.op = .binOp op t x y q) {r : PV} (hr : binG P op t (σ.ev x) (σ.ev y) = some r) : Did P w0 foot omut σ c o a ⟨r, [], []⟩ := by
  obtain ⟨z, h1, h2⟩ := run_binG (P := P) (R.ev ha x) (R.ev ha y) hr x y c.w
  refine Did.val R ha hd (h2 c) ?_
  simp only [execOp, hop]
  simp only [Sem.run_bind] at h1 ⊢
  rw [h1]
  rfl
theorem did_not (R : Rel w0 foot omut σ tmps c) {a : Act} (ha : a.tmps = tmps) {o : Oper} (hd : ∀ d, o.dst = some d → d < tmps.size) {t : Nat} {x : Operand} (hop : o.op = .unOp .not t x) {b : Bool} (hr : boolOfP (σ.ev x) = some b) : Did P w0 foot omut σ c o a ⟨.bool (!b), [], []⟩ := by
  have h := bool_of (R.ev ha x) hr
  exact Did.val R ha hd (.bool _) (by simp [execOp, hop, h, Op.unary])
theorem did_neg (R : Rel w0 foot omut σ tmps c) {a : Act} (ha : a.tmps = tmps) {o : Oper} (hd : ∀ d, o.dst = some d → d < tmps.size) {t : Nat} {x : Operand} (hop : o.op = .unOp .neg t x) {k : IntKind} {n : Int} (hr : σ.ev x = .int k n) : Did P w0 foot omut σ c o a ⟨.int k (k.wrap (0 - n)), [], []⟩ := by
  have h := hr ▸ R.ev ha x
  generalize hu : a.eval x = u at h
  cases h
  exact Did.val R ha hd (.int _ _) (by simp [execOp, hop, hu, Op.unary, Op.intArith])
theorem did_convII (R : Rel w0 foot omut σ tmps c) {a : Act} (ha : a.tmps = tmps) {o : Oper} (hd : ∀ d, o.dst = some d → d < tmps.size) {s t : Nat} {x : Operand} (hop : o.op = .convert s t x) {k j : IntKind} {n : Int} (hx : σ.ev x = .int j n) (hs : knownP P s = true) (ht : intP P t = some k) : Did P w0 foot omut σ c o a ⟨.int k (k.wrap n), [], []⟩ := by
  have h := hx ▸ R.ev ha x
  generalize hu : a.eval x = u at h
  cases h
  unfold knownP at hs
  rw [Bool.and_eq_true] at hs
  obtain ⟨d, hd'⟩ := Option.isSome_iff_exists.1 hs.2
  refine Did.val R ha hd (.int _ _) ?_
  cases d <;> simp [execOp, hop, hu, convert, run_underlying hd', run_underlying (int_under ht), Conv.intToInt]
theorem did_convIS (R : Rel w0 foot omut σ tmps c) {a : Act} (ha : a.tmps = tmps) {o : Oper} (hd : ∀ d, o.dst = some d → d < tmps.size) {s t : Nat} {x : Operand} (hop : o.op = .convert s t x) {j : IntKind} {n : Int} (hx : σ.ev x = .int j n) (hs : knownP P s = true) (ht : strP P t = true) : Did P w0 foot omut σ c o a ⟨.str (Utf8.encode n), [], []⟩ := by
  have h := hx ▸ R.ev ha x
  generalize hu : a.eval x = u at h
  cases h
  unfold knownP at hs
  rw [Bool.and_eq_true] at hs
  obtain ⟨d, hd'⟩ := Option.isSome_iff_exists.1 hs.2
  refine Did.val R ha hd (.str _) ?_
  cases d <;> simp [execOp, hop, hu, convert, run_underlying hd', run_underlying (str_under ht), Conv.intToString]
theorem did_convSS (R : Rel w0 foot omut σ tmps c) {a : Act} (ha : a.tmps = tmps) {o : Oper} (hd : ∀ d, o.dst = some d → d < tmps.size) {s t : Nat} {x : Operand} (hop : o.op = .convert s t x) {b : ByteArray} (hx : σ.ev x = .str b) (hs : knownP P s = true) (ht : strP P t = true) : Did P w0 foot omut σ c o a ⟨.str b, [], []⟩ := by
  have h := hx ▸ R.ev ha x
  generalize hu : a.eval x = u at h
  cases h
  unfold knownP at hs
  rw [Bool.and_eq_true] at hs
  obtain ⟨d, hd'⟩ := Option.isSome_iff_exists.1 hs.2
  refine Did.val R ha hd (.str _) ?_
  cases d <;> simp [execOp, hop, hu, convert, run_underlying hd', run_underlying (str_under ht)]
theorem did_makeFunc (R : Rel w0 foot omut σ tmps c) {a : Act} (ha : a.tmps = tmps) {o : Oper} (hd : ∀ d, o.dst = some d → d < tmps.size) {f : Nat} {caps : Array Operand} (hop : o.op = .makeFunc (.func f) #[] caps) : Did P w0 foot omut σ c o a ⟨.fn f (caps.toList.map σ.ev), [], []⟩ := by
  refine Did.val R ha hd (.fn f _ (caps.toList.map a.eval) (by simp) (fun i x u h1 h2 => ?_)) ?_
  · rw [List.getElem?_map] at h1 h2
    cases hq : caps.toList[i]? with
    | none => rw [hq] at h1; cases h1
    | some q => rw [hq] at h1 h2; cases h1; cases h2; exact R.ev ha q
  · have : Array.map a.eval caps = (caps.toList.map a.eval).toArray := by
      apply Array.ext'; simp
    simp [execOp, hop, Instr.makeFunc, this]
theorem did_field (R : Rel w0 foot omut σ tmps c) {a : Act} (ha : a.tmps = tmps) {o : Oper} (hd : ∀ d, o.dst = some d → d < tmps.size) {s f : Nat} {x : Operand} (hop : o.op = .field s x f) {off ft : Nat} (hf : offP P s f = some (off, ft)) (hk : knownP P ft = true) {cs : List PV} (hx : σ.ev x = .agg cs) {y : PV} (hy : loadRow P ft cs off = some y) : Did P w0 foot omut σ c o a ⟨y, [], []⟩ := by
  obtain ⟨fs, z, u1, u2, u3, u4⟩ := off_under hf
  unfold knownP at hk
  rw [Bool.and_eq_true] at hk
  obtain ⟨inf, hinf⟩ := Option.isSome_iff_exists.1 hk.1
  obtain ⟨d, hdd⟩ := Option.isSome_iff_exists.1 hk.2
  have hs : szP P ft = inf.size := by unfold szP; rw [hinf]; rfl
  have h := hx ▸ R.ev ha x
  generalize hu : a.eval x = u at h
  cases h with
  | agg cs us hl h =>
    unfold loadRow at hy
    by_cases hag : aggP P ft = true
    · rw [if_pos hag] at hy
      split at hy
      · rename_i hle
        cases hy
        refine Did.val R ha hd (u := .agg ((us.drop off).take inf.size).toArray) (.agg _ _ (by simp [hs, hl]) (fun i x u h1 h2 => ?_)) ?_
        · rw [List.getElem?_take] at h1 h2
          split at h2
          · rename_i hi
            rw [if_pos (by rw [hs]; exact hi)] at h1
            rw [List.getElem?_drop] at h1 h2
            exact h _ x u h1 h2
          · cases h2
        · have e : us.toArray.extract off (off + inf.size) = ((us.drop off).take inf.size).toArray := by
            apply Array.ext'
            simp
          simp [execOp, hop, hu, Instr.field, run_underlying u1, u2, asAgg, part, u4, run_isAgg _ hdd, hag, sizeOf, typeInfo, hinf, u3, e]
      · cases hy
    · rw [if_neg hag] at hy
      have hag' : aggP P ft = false := by simpa using hag
      have hi : off < us.length := by rw [← hl]; exact (List.getElem?_eq_some_iff.1 hy).1
      refine Did.val R ha hd (h off y us[off] hy (by simp [hi])) ?_
      simp [execOp, hop, hu, Instr.field, run_underlying u1, u2, asAgg, part, u4, run_isAgg _ hdd, hag', sizeOf, typeInfo, hinf, u3, hi]
theorem did_extract (R : Rel w0 foot omut σ tmps c) {a : Act} (ha : a.tmps = tmps) {o : Oper} (hd : ∀ d, o.dst = some d → d < tmps.size) {i : Nat} {x : Operand} (hop : o.op = .extract x i) {vs : List PV} (hx : σ.ev x = .tup vs) {y : PV} (hy : vs[i]? = some y) : Did P w0 foot omut σ c o a ⟨y, [], []⟩ := by
  have h := hx ▸ R.ev ha x
  generalize hu : a.eval x = u at h
  cases h with
  | tup vs us hl h =>
    have hi : i < us.length := by rw [← hl]; exact (List.getElem?_eq_some_iff.1 hy).1
    exact Did.val R ha hd (h i y us[i] hy (by simp [hi])) (by simp [execOp, hop, hu, Instr.extract, hi])
theorem did_indexS (R : Rel w0 foot omut σ tmps c) {a : Act} (ha : a.tmps = tmps) {o : Oper} (hd : ∀ d, o.dst = some d → d < tmps.size) {t : Nat} {x ix : Operand} (hop : o.op = .index t x ix) {s : ByteArray} (hx : σ.ev x = .str s) {i : Int} (hi : intOfP (σ.ev ix) = some i) (ht : strP P t = true) (h0 : 0 ≤ i) {b : UInt8} (hb : s[i.toNat]? = some b) : Did P w0 foot omut σ c o a ⟨.int .u8 b.toNat, [], []⟩ := by
  obtain ⟨k, hk⟩ := int_of (R.ev ha ix) hi
  have h := hx ▸ R.ev ha x
  generalize hu : a.eval x = u at h
  cases h
  exact Did.val R ha hd (.int _ _) (by simp [execOp, hop, hu, hk, Instr.index, asIntOf, run_underlying (str_under ht), h0, hb])
theorem did_range (R : Rel w0 foot omut σ tmps c) {a : Act} (ha : a.tmps = tmps) {o : Oper} (hd : ∀ d, o.dst = some d → d < tmps.size) {t : Nat} {x : Operand} (hop : o.op = .range t x) (b : Id) {s : ByteArray} (hx : σ.ev x = .str s) (ht : strP P t = true) :
    Did P w0 foot omut σ c o a ⟨.it b ((σ.m b).ver + 1), [], [mkB σ.m b (.iter s 0)]⟩ := by
  have h := hx ▸ R.ev ha x
  generalize hu : a.eval x = u at h
  cases h
  refine Did.new R ha hd b _ (.pointer (some ⟨c.w.heap.size, 0, none⟩)) (.stringIter s 0) 0 0 ?_ ?_ ?_
  · simp [execOp, hop, hu, Instr.range, run_underlying (str_under ht)]
  · exact fun d hw hb ha' hs hv hle => .iter s 0 _ 0 ha' (.inl (by rw [hb]; exact R.bs)) (by rw [hw]; exact heap_alloc_new _ _)
  · exact fun d ha' hs hv => .it _ _ _ rfl (by rw [hv]; exact Nat.le_refl _) (fun _ => ⟨_, _, ha', rfl⟩)
theorem iter_at (R : Rel w0 foot omut σ tmps c) {b : Id} {v : Nat} {u : Value} (h : RelV c (.it b v) u) {s : ByteArray} {pos : Nat} (hl : look σ.m b v = some (.iter s pos)) :
    ∃ g cap, c.at_ b = some (g, cap) ∧ u = .pointer (some ⟨g, 0, none⟩) ∧ c.w.heap[g]? = some (.stringIter s pos) ∧ (c.base ≤ g ∨ foot g) := by
  obtain ⟨l1, l2⟩ := look_live hl
  cases h with
  | it b v u h1 hv h =>
    obtain ⟨g, cap, ha, hu⟩ := h (by rw [R.ver b]; exact l1.symm)
    have hB := R.mem b _ l2
    cases hB with
    | iter s pos g' cap' ha' ho hh =>
      rw [ha'] at ha
      cases ha
      exact ⟨g, cap, ha', hu, hh, ho⟩
theorem did_next (R : Rel w0 foot omut σ tmps c) {a : Act} (ha : a.tmps = tmps) {o : Oper} (hd : ∀ d, o.dst = some d → d < tmps.size) {x : Operand} (hop : o.op = .next x true) {b : Id} {v : Nat} (hx : σ.ev x = .it b v) {s : ByteArray} {pos : Nat} (hl : look σ.m b v = some (.iter s pos)) (hp : pos < s.size) (lk : List Id) :
    Did P w0 foot omut σ c o a ⟨.tup [.bool true, .int .i64 pos, .int .i32 (Utf8.decode s pos).1], lk, [(b, ⟨v, some (.iter s (pos + (Utf8.decode s pos).2))⟩)]⟩ := by
  obtain ⟨g, cap, g1, g2, g3, g4⟩ := iter_at R (hx ▸ R.ev ha x) hl
  obtain ⟨l1, l2⟩ := look_live hl
  have hlt : g < c.w.heap.size := (Array.getElem?_eq_some_iff.1 g3).1
  have hrun : (execOp a.eval o).run P c.w = .ok (.value (.tuple #[.bool true, goInt pos, .int .i32 (Utf8.decode s pos).1])) { c.w with heap := c.w.heap.setIfInBounds g (.stringIter s (pos + (Utf8.decode s pos).2)) } := by
    simp only [execOp, hop, g2, Instr.next]
    simp only [Sem.run_bind, getObj, Sem.run, g3, Result.andThen_ok, Sem.run_pure', hp, if_true, setObj, Sem.run_pure]
  refine Did.turn R ha hd b v _ _ _ (c.at_ b) (c.sz b) (.inl hrun) (by rw [R.ver b]; omega) (fun _ => ⟨rfl, rfl⟩) rfl rfl rfl (by simp) ?_ ?_ ?_ ?_
  · intro k hk hno
    show (c.w.heap.setIfInBounds g _)[k]? = _
    rw [Array.getElem?_setIfInBounds_ne]
    intro q; subst q; exact hno _ cap l2 g1
  · exact fun g' cap' q => .inr ⟨_, cap', l2, q⟩
  · intro d hw hb hat _ _ _
    refine .iter s _ g cap (hat.trans g1) (by rw [hb]; exact g4) ?_
    rw [hw]
    show (c.w.heap.setIfInBounds g _)[g]? = _
    simp [hlt]
  · intro d _ _ _ _ _ _
    refine .tup _ [.bool true, goInt pos, .int .i32 (Utf8.decode s pos).1] rfl (fun i x u h1 h2 => ?_)
    match i, h1, h2 with
    | 0, h1, h2 => cases h1; cases h2; exact .bool _
    | 1, h1, h2 => cases h1; cases h2; exact .int _ _
    | 2, h1, h2 => cases h1; cases h2; exact .int _ _
theorem did_nextEnd (R : Rel w0 foot omut σ tmps c) {a : Act} (ha : a.tmps = tmps) {o : Oper} (hd : ∀ d, o.dst = some d → d < tmps.size) {x : Operand} (hop : o.op = .next x true) {b : Id} {v : Nat} (hx : σ.ev x = .it b v) {s : ByteArray} {pos : Nat} (hl : look σ.m b v = some (.iter s pos)) (hp : ¬ pos < s.size) (lk : List Id) :
    Did P w0 foot omut σ c o a ⟨.tup [.bool false], lk, []⟩ := by
  obtain ⟨g, cap, g1, g2, g3, g4⟩ := iter_at R (hx ▸ R.ev ha x) hl
  refine Did.val R ha hd (u := .tuple #[.bool false]) (.tup _ [.bool false] rfl (fun i x u h1 h2 => ?_)) ?_
  · match i, h1, h2 with
    | 0, h1, h2 => cases h1; cases h2; exact .bool _
  · simp only [execOp, hop, g2, Instr.next]
    simp only [Sem.run_bind, getObj, Sem.run, g3, Result.andThen_ok, Sem.run_pure', hp, if_false, Sem.run_pure]
end
end Go.Proofs.Ev
namespace Go.Proofs.Ev
open Go Go.RowKit
set_option linter.unusedVariables false
set_option linter.unusedSimpArgs false
section
variable {P : Program} {w0 : World} {foot omut : Nat → Prop} {σ : St} {tmps : Array Value} {c : Cx}
theorem run_bound (k : IntKind) (i : Int) (y : Nat) (code : BoundsCode) (h0 : 0 ≤ i) (h1 : i ≤ y) (w : World) : (Instr.sliceBound (.int k i) y code).run P w = .ok i.toNat w := by
  simp [Instr.sliceBound, asIntOf, h0, h1]
/-- The bounds of a slice, high and low as they are told. -/
theorem run_bounds (isS : Bool) (len cap : Nat) (hlc : len ≤ cap) (lo hi : Option Value) (l : Int) (h : Option Int) (hl : match lo with | some v => ∃ k, v = .int k l | none => l = 0) (hh : match hi with | some v => ∃ k n, v = .int k n ∧ h = some n | none => h = none)
    (hb : match h with | some n => 0 ≤ l ∧ l ≤ n ∧ n ≤ len | none => 0 ≤ l ∧ l ≤ len) (w : World) : (Instr.sliceBounds isS len cap lo hi none).run P w = .ok (l.toNat, (match h with | some n => n.toNat | none => len), cap) w := by
  cases hi with
  | none =>
    simp only at hh
    subst hh
    simp only at hb
    cases lo with
    | none => simp only at hl; subst hl; simp [Instr.sliceBounds]
    | some v =>
      obtain ⟨k, rfl⟩ := hl
      simp [Instr.sliceBounds, run_bound k l len _ hb.1 hb.2]
  | some v =>
    obtain ⟨k, n, rfl, rfl⟩ := hh
    simp only at hb
    have h1 := run_bound (P := P) k n cap (if isS then .sliceAcap else .sliceAlen) (by omega) (by omega) w
    cases lo with
    | none => simp only at hl; subst hl; simp [Instr.sliceBounds, h1]
    | some v =>
      obtain ⟨k', rfl⟩ := hl
      have h2 := run_bound (P := P) k' l n.toNat .sliceB hb.1 (by omega) w
      simp [Instr.sliceBounds, h1, h2]
/-- A part of a row that is only read. -/
theorem ro_part {d : Cx} {rows : List (List PV)} {u : Value} {e : Nat} (hr : RelV d (.ro rows) u) (l h : Nat) (hlh : l ≤ h) (hh : h ≤ rows.length) (hsz : ∀ row, rows.head? = some row → row.length = e) :
    ∃ A cap, u = .slice A rows.length cap ∧ rows.length ≤ cap ∧ RelV d (.ro ((rows.take h).drop l)) (.slice (if cap = l then A else A.map (·.add (l * e))) (h - l) (cap - l)) := by
  cases hr with
  | ro rows A cap sz f hn hA hz hb hf hc hv =>
    refine ⟨A, cap, rfl, hn, ?_⟩
    have hlen : ((rows.take h).drop l).length = h - l := by simp; omega
    have hget : ∀ i row, ((rows.take h).drop l)[i]? = some row → rows[l + i]? = some row := by
      intro i row hi
      rw [List.getElem?_drop, List.getElem?_take] at hi
      split at hi
      · exact hi
      · cases hi
    rw [← hlen]
    by_cases hcl : cap = l
    · rw [if_pos hcl]
      have hem : (rows.take h).drop l = [] := by apply List.eq_nil_of_length_eq_zero; rw [hlen]; omega
      rw [hem]
      exact .ro _ A _ sz f (by simp) (fun _ => ⟨rfl, by omega⟩) (fun i row hi => by simp at hi) (fun _ _ q => absurd rfl q) (fun i row j x h1 h2 => by simp at h1) (fun ad i row j x e h1 h2 => by simp at h1) (fun i row j x h1 h2 => by simp at h1)
    · rw [if_neg hcl]
      cases A with
      | none =>
        have hne := (hA rfl).1
        subst hne
        simp at hh
        subst hh
        have : l = 0 := by omega
        subst this
        exact .ro _ none _ sz f (by simp) (fun q => ⟨rfl, by have := (hA rfl).2; omega⟩) (fun i row hi => by simp at hi) (fun ad q => by cases q) (fun i row j x h1 h2 => by simp at h1) (fun ad i row j x e h1 h2 => by simp at h1) (fun i row j x h1 h2 => by simp at h1)
      | some ad =>
        by_cases hne : rows = []
        · subst hne
          have hem : List.drop l (List.take h ([] : List (List PV))) = [] := by simp
          rw [hem]
          exact .ro _ (some (ad.add (l * e))) _ sz f (by simp) (fun q => by cases q) (fun i row hi => by simp at hi) (fun _ _ q => absurd rfl q) (fun i row j x h1 h2 => by simp at h1) (fun ad i row j x e h1 h2 => by simp at h1) (fun i row j x h1 h2 => by simp at h1)
        obtain ⟨s1, s2, s4⟩ := hb ad rfl hne
        have hadd : ∀ k, ad.add k = ⟨ad.block, ad.off + k, none⟩ := by
          intro k
          unfold Addr.add
          split
          · rename_i q; rw [q]; cases ad; simp only at s1; subst s1; rfl
          · rfl
        refine .ro _ (some (ad.add (l * e))) _ sz (fun i j => f (l + i) j) (by rw [hlen]; omega) (fun e => by cases e) (fun i row hi => hz _ row (hget i row hi)) ?_ (fun i row j x h1 h2 => hf _ row j x (hget i row h1) h2) ?_ (fun i row j x h1 h2 => hv _ row j x (hget i row h1) h2)
        · intro ad' q _
          cases q
          rw [hadd]
          exact ⟨rfl, s2, s4⟩
        · intro ad' i row j x q h1 h2
          cases q
          have h3 := hget i row h1
          have hse : sz = e := by
            obtain ⟨r0, hr0⟩ : ∃ r, rows[0]? = some r := by
              cases rows with
              | nil => simp at h3
              | cons r _ => exact ⟨r, rfl⟩
            have a1 := hz 0 r0 hr0
            have a2 := hsz r0 (by rw [← hr0, List.head?_eq_getElem?])
            omega
          subst hse
          have := hc ad (l + i) row j x rfl h3 h2
          rw [hadd, ← this]
          congr 2
          simp only
          rw [Nat.add_mul]
          omega
theorem bound_args (R : Rel w0 foot omut σ tmps c) {a : Act} (ha : a.tmps = tmps) {lo hi : Option Operand} {l : Int} {h : Option Int}
    (hl : loP σ.ev lo = some l) (hh : hiP σ.ev hi = some h) :
    (match lo.map a.eval with | some v => ∃ k, v = .int k l | none => l = 0) ∧ (match hi.map a.eval with | some v => ∃ k n, v = .int k n ∧ h = some n | none => h = none) := by
  refine ⟨?_, ?_⟩
  · cases lo with
    | none => simp only [loP, Option.some.injEq] at hl; exact hl.symm
    | some z => exact int_of (R.ev ha z) hl
  · cases hi with
    | none => simp only [hiP, Option.some.injEq] at hh; exact hh.symm
    | some z =>
      cases hz : intOfP (σ.ev z) with
      | none => simp [hiP, hz] at hh
      | some n => simp [hiP, hz] at hh; obtain ⟨k, hk⟩ := int_of (R.ev ha z) hz; exact ⟨k, n, hk, hh.symm⟩
theorem did_sliceS (R : Rel w0 foot omut σ tmps c) {a : Act} (ha : a.tmps = tmps) {o : Oper} (hd : ∀ d, o.dst = some d → d < tmps.size) {t : Nat} {x : Operand} {lo hi : Option Operand} (hop : o.op = .slice t x lo hi none) {s : ByteArray} (hx : σ.ev x = .str s) (ht : strP P t = true) {l : Int} {h : Option Int}
    (hl : loP σ.ev lo = some l) (hh : hiP σ.ev hi = some h) {y : PV} (hy : sliceF (.str s) l h = some y) : Did P w0 foot omut σ c o a ⟨y, [], []⟩ := by
  have hv := hx ▸ R.ev ha x
  generalize hu : a.eval x = u at hv
  cases hv
  obtain ⟨e1, e2⟩ := bound_args R ha hl hh
  cases h with
  | none =>
    simp only [sliceF] at hy
    split at hy
    · rename_i hb
      cases hy
      have hr := run_bounds (P := P) false s.size s.size (Nat.le_refl _) (lo.map a.eval) (hi.map a.eval) l none e1 e2 hb c.w
      refine Did.val R ha hd (.str _) ?_
      simp [execOp, hop, hu, Instr.sliceAt, Instr.slice, run_underlying (str_under ht), hr]
    · cases hy
  | some n =>
    simp only [sliceF] at hy
    split at hy
    · rename_i hb
      cases hy
      have hr := run_bounds (P := P) false s.size s.size (Nat.le_refl _) (lo.map a.eval) (hi.map a.eval) l (some n) e1 e2 hb c.w
      refine Did.val R ha hd (.str _) ?_
      simp [execOp, hop, hu, Instr.sliceAt, Instr.slice, run_underlying (str_under ht), hr]
    · cases hy
theorem did_sliceR (R : Rel w0 foot omut σ tmps c) {a : Act} (ha : a.tmps = tmps) {o : Oper} (hd : ∀ d, o.dst = some d → d < tmps.size) {t e : Nat} {x : Operand} {lo hi : Option Operand} (hop : o.op = .slice t x lo hi none) {rows : List (List PV)} (hx : σ.ev x = .ro rows) (ht : elP P t = some e) (h0 : 0 < szP P e) (hrows : rowsOk (szP P e) (.ro rows) = true) {l : Int} {h : Option Int}
    (hl : loP σ.ev lo = some l) (hh : hiP σ.ev hi = some h) {y : PV} (hy : sliceF (.ro rows) l h = some y) : Did P w0 foot omut σ c o a ⟨y, [], []⟩ := by
  have hv := hx ▸ R.ev ha x
  generalize hu : a.eval x = u at hv
  obtain ⟨e1, e2⟩ := bound_args R ha hl hh
  obtain ⟨inf, hinf, hisz⟩ := size_info (P := P) (t := e) rfl h0
  have hall : ∀ row, rows.head? = some row → row.length = szP P e := by
    intro row hr
    have hm : row ∈ rows := List.mem_of_mem_head? hr
    have := List.all_eq_true.1 hrows row hm
    simpa using this
  have hu' := el_under ht
  cases h with
  | none =>
    simp only [sliceF] at hy
    split at hy
    · rename_i hb
      cases hy
      obtain ⟨A, cap, rfl, hn, hr⟩ := ro_part hv l.toNat rows.length (by omega) (Nat.le_refl _) hall
      have hrun := run_bounds (P := P) true rows.length cap hn (lo.map a.eval) (hi.map a.eval) l none e1 e2 hb c.w
      rw [List.take_length] at hr
      refine Did.val R ha hd hr ?_
      simp [execOp, hop, hu, Instr.sliceAt, Instr.slice, run_underlying hu', hrun, sizeOf, typeInfo, hinf, hisz]
    · cases hy
  | some n =>
    simp only [sliceF] at hy
    split at hy
    · rename_i hb
      cases hy
      obtain ⟨A, cap, rfl, hn, hr⟩ := ro_part hv l.toNat n.toNat (by omega) (by omega) hall
      have hrun := run_bounds (P := P) true rows.length cap hn (lo.map a.eval) (hi.map a.eval) l (some n) e1 e2 hb c.w
      refine Did.val R ha hd hr ?_
      simp [execOp, hop, hu, Instr.sliceAt, Instr.slice, run_underlying hu', hrun, sizeOf, typeInfo, hinf, hisz]
    · cases hy
/-- An own row as a value. -/
theorem own_at (R : Rel w0 foot omut σ tmps c) {b : Id} {v n : Nat} {u : Value} (h : RelV c (.own b v n) u) {fl : Bool} {e sz : Nat} {rs : List (List PV)} (hl : look σ.m b v = some (.rows fl e sz rs)) :
    c.sz b = sz ∧ 0 < sz ∧ ((c.at_ b = none ∧ n = 0 ∧ rs = [] ∧ u = .slice none 0 0) ∨ ∃ g cap cur, c.at_ b = some (g, cap) ∧ n ≤ cap ∧ u = .slice (some ⟨g, 0, none⟩) n cap ∧ c.w.heap[g]? = some (.cells cur e (0, 0)) ∧ rs.length ≤ cap ∧ cap ≤ maxLen ∧ cap * sz ≤ cur.size ∧ (∀ (i : Nat) (row : List PV), rs[i]? = some row → row.length = sz) ∧
      (∀ (i : Nat) (row : List PV) (j : Nat) (x : PV), rs[i]? = some row → row[j]? = some x → x.one = true ∧ (fl = true → x.sf = true)) ∧ (∀ (i : Nat) (row : List PV) (j : Nat) (x : PV), rs[i]? = some row → row[j]? = some x → ∃ u, cur[i * sz + j]? = some u ∧ RelV c x u) ∧ (c.base ≤ g ∨ foot g)) := by
  obtain ⟨l1, l2⟩ := look_live hl
  cases h with
  | own b v n u h1 hv h =>
    have hh := h (by rw [R.ver b]; exact l1.symm)
    have hB := R.mem b _ l2
    cases hB with
    | none fl e sz hz h0 ha' =>
      refine ⟨hz, h0, .inl ?_⟩
      rcases hh with ⟨p, q, r⟩ | ⟨g, cap, p, q, r⟩
      · exact ⟨p, q, rfl, r⟩
      · rw [ha'] at p; cases p
    | rows fl e sz rs g' cap' cur hz h0 ha' ho hh' hn hm hs hl' h1' hr =>
      refine ⟨hz, h0, .inr ?_⟩
      rcases hh with ⟨p, q, r⟩ | ⟨g, cap, p, q, r⟩
      · rw [ha'] at p; cases p
      · rw [ha'] at p
        cases p
        exact ⟨_, _, cur, ha', q, r, hh', hn, hm, hs.1, hl', h1', hr, ho⟩
theorem did_sliceO (R : Rel w0 foot omut σ tmps c) {a : Act} (ha : a.tmps = tmps) {o : Oper} (hd : ∀ d, o.dst = some d → d < tmps.size) {t e : Nat} {x : Operand} {lo hi : Option Operand} (hop : o.op = .slice t x lo hi none) {b : Id} {v n : Nat} (hx : σ.ev x = .own b v n) (ht : elP P t = some e) (h0 : 0 < szP P e) {fl : Bool} {e' sz : Nat} {rs : List (List PV)} (hlk : look σ.m b v = some (.rows fl e' sz rs)) {l : Int} {h : Option Int}
    (hl : loP σ.ev lo = some l) (hh : hiP σ.ev hi = some h) {y : PV} (hy : sliceF (.own b v n) l h = some y) (lk : List Id) : Did P w0 foot omut σ c o a ⟨y, lk, []⟩ := by
  have hv := hx ▸ R.ev ha x
  generalize hu : a.eval x = u at hv
  obtain ⟨e1, e2⟩ := bound_args R ha hl hh
  obtain ⟨inf, hinf, hisz⟩ := size_info (P := P) (t := e) rfl h0
  have hu' := el_under ht
  obtain ⟨hl1, hl2⟩ := look_live hlk
  obtain ⟨hsz, hs0, hc⟩ := own_at R hv hlk
  have key : ∀ k : Nat, k ≤ n → ∃ u', RelV c (.own b v k) u' ∧ ∀ cap A, u = .slice A n cap → u' = .slice A k cap := by
    intro k hk
    rcases hc with ⟨p1, p2, p3, p4⟩ | ⟨g, cap, cur, p1, p2, p3, _⟩
    · refine ⟨.slice none 0 0, .own _ _ _ _ rfl (by rw [R.ver b]; omega) (fun _ => .inl ⟨p1, by omega, rfl⟩), fun cap A q => ?_⟩
      rw [p4] at q
      cases q
      have : k = 0 := by omega
      rw [this]
    · refine ⟨.slice (some ⟨g, 0, none⟩) k cap, .own _ _ _ _ rfl (by rw [R.ver b]; omega) (fun _ => .inr ⟨g, cap, p1, by omega, rfl⟩), fun cap' A q => ?_⟩
      rw [p3] at q
      cases q
      rfl
  obtain ⟨A, cap, hu2, hcap⟩ : ∃ A cap, u = .slice A n cap ∧ n ≤ cap := by
    rcases hc with ⟨p1, p2, p3, p4⟩ | ⟨g, cap, cur, p1, p2, p3, _⟩
    · exact ⟨none, 0, by rw [p4, p2], by omega⟩
    · exact ⟨_, cap, p3, p2⟩
  subst hu2
  have hadd : ∀ (B : Option Addr), B.map (fun x => x.add 0) = B := by
    intro B
    cases B with
    | none => rfl
    | some ad => simp [Addr.add]
  cases h with
  | none =>
    simp only [sliceF] at hy
    split at hy
    · rename_i hb
      cases hy
      subst hb
      have hrun := run_bounds (P := P) true n cap hcap (lo.map a.eval) (hi.map a.eval) 0 none e1 e2 ⟨Int.le_refl _, by omega⟩ c.w
      refine Did.val R ha hd hv ?_
      simp [execOp, hop, hu, Instr.sliceAt, Instr.slice, run_underlying hu', hrun, sizeOf, typeInfo, hinf, hisz, hadd]
    · cases hy
  | some k =>
    simp only [sliceF] at hy
    split at hy
    · rename_i hb
      cases hy
      obtain ⟨rfl, hb1, hb2⟩ := hb
      have hrun := run_bounds (P := P) true n cap hcap (lo.map a.eval) (hi.map a.eval) 0 (some k) e1 e2 ⟨Int.le_refl _, hb1, hb2⟩ c.w
      obtain ⟨u', r1, r2⟩ := key k.toNat (by omega)
      rw [r2 cap A rfl] at r1
      refine Did.val R ha hd r1 ?_
      simp [execOp, hop, hu, Instr.sliceAt, Instr.slice, run_underlying hu', hrun, sizeOf, typeInfo, hinf, hisz, hadd]
    · cases hy
theorem did_sliceN (R : Rel w0 foot omut σ tmps c) {a : Act} (ha : a.tmps = tmps) {o : Oper} (hd : ∀ d, o.dst = some d → d < tmps.size) {t e : Nat} {x : Operand} {lo hi : Option Operand} (hop : o.op = .slice t x lo hi none) (hx : σ.ev x = .nils) (ht : elP P t = some e) (h0 : 0 < szP P e) {l : Int} {h : Option Int}
    (hl : loP σ.ev lo = some l) (hh : hiP σ.ev hi = some h) {y : PV} (hy : sliceF .nils l h = some y) (lk : List Id) : Did P w0 foot omut σ c o a ⟨y, lk, []⟩ := by
  have hv := hx ▸ R.ev ha x
  generalize hu : a.eval x = u at hv
  cases hv
  obtain ⟨e1, e2⟩ := bound_args R ha hl hh
  obtain ⟨inf, hinf, hisz⟩ := size_info (P := P) (t := e) rfl h0
  have hu' := el_under ht
  simp only [sliceF] at hy
  split at hy
  · rename_i hb
    cases hy
    obtain ⟨rfl, hb⟩ := hb
    have hrun := run_bounds (P := P) true 0 0 (Nat.le_refl _) (lo.map a.eval) (hi.map a.eval) 0 h e1 e2 (by rcases hb with rfl | rfl <;> simp) c.w
    refine Did.val R ha hd .nils ?_
    rcases hb with rfl | rfl <;> simp [execOp, hop, hu, Instr.sliceAt, Instr.slice, run_underlying hu', hrun, sizeOf, typeInfo, hinf, hisz]
  · cases hy
end
end Go.Proofs.Ev
namespace Go.Proofs.Ev
open Go Go.RowKit
set_option linter.unusedVariables false
set_option linter.unusedSimpArgs false
section
variable {P : Program} {w0 : World} {foot omut : Nat → Prop} {σ : St} {tmps : Array Value} {c : Cx}
theorem did_indexR (R : Rel w0 foot omut σ tmps c) {a : Act} (ha : a.tmps = tmps) {o : Oper} (hd : ∀ d, o.dst = some d → d < tmps.size) {t e : Nat} {x ix : Operand} (hop : o.op = .indexAddr t x ix) (ht : elP P t = some e) {i : Int} (hi : intOfP (σ.ev ix) = some i) {rows : List (List PV)} (hx : σ.ev x = .ro rows) (h0 : 0 ≤ i) {row : List PV} (hrow : rows[i.toNat]? = some row) (hsz : row.length = szP P e) (hs0 : 0 < szP P e) (lk : List Id) :
    Did P w0 foot omut σ c o a ⟨.rp row 0, lk, []⟩ := by
  obtain ⟨k, hk⟩ := int_of (R.ev ha ix) hi
  obtain ⟨inf, hinf, hisz⟩ := size_info (P := P) (t := e) rfl hs0
  have hu' := el_under ht
  have hv := hx ▸ R.ev ha x
  generalize hu : a.eval x = u at hv
  have hlt : i.toNat < rows.length := (List.getElem?_eq_some_iff.1 hrow).1
  cases hv with
  | ro rows A cap sz f hn hA hz hb hf hc hv =>
    cases A with
    | none => rw [(hA rfl).1] at hrow; simp at hrow
    | some ad =>
      obtain ⟨s1, s2, s4⟩ := hb ad rfl (by rintro rfl; simp at hrow)
      have hse : sz = szP P e := by rw [← hsz]; exact (hz _ row hrow).symm
      subst hse
      have hadd : ad.add (i.toNat * szP P e) = ⟨ad.block, ad.off + i.toNat * szP P e, none⟩ := by
        unfold Addr.add
        split
        · rename_i q; rw [q]; cases ad; simp only at s1; subst s1; rfl
        · rfl
      refine Did.val R ha hd (.rp row 0 ⟨ad.block, ad.off + i.toNat * szP P e, none⟩ (f i.toNat) rfl s2 (fun j x h => hf _ row j x hrow h) s4 (fun j x h => ?_) (fun j x h => hv _ row j x hrow h)) ?_
      · rw [← hc ad _ row j x rfl hrow h]
        simp only
        congr 2
        omega
      · have hlt' : i < rows.length := by omega
        simp [execOp, hop, hu, hk, Instr.indexAt, asIntOf, run_underlying hu', h0, hlt', sizeOf, typeInfo, hinf, hisz, hadd]
theorem did_indexO (R : Rel w0 foot omut σ tmps c) {a : Act} (ha : a.tmps = tmps) {o : Oper} (hd : ∀ d, o.dst = some d → d < tmps.size) {t e : Nat} {x ix : Operand} (hop : o.op = .indexAddr t x ix) (ht : elP P t = some e) {i : Int} (hi : intOfP (σ.ev ix) = some i) {b : Id} {v n : Nat} (hx : σ.ev x = .own b v n) {fl : Bool} {e' sz : Nat} {rs : List (List PV)} (hlk : look σ.m b v = some (.rows fl e' sz rs)) (h0 : 0 ≤ i) (h1 : i < n) (hn : n ≤ rs.length) (hsz : sz = szP P e) (lk : List Id) :
    Did P w0 foot omut σ c o a ⟨.ptr b v i.toNat 0, lk, []⟩ := by
  obtain ⟨k, hk⟩ := int_of (R.ev ha ix) hi
  have hu' := el_under ht
  have hv := hx ▸ R.ev ha x
  generalize hu : a.eval x = u at hv
  obtain ⟨l1, l2⟩ := look_live hlk
  obtain ⟨q1, q2, q3⟩ := own_at R hv hlk
  subst hsz
  obtain ⟨inf, hinf, hisz⟩ := size_info (P := P) (t := e) rfl q2
  rcases q3 with ⟨p1, p2, p3, p4⟩ | ⟨g, cap, cur, p1, p2, p3, p4⟩
  · omega
  · have hadd : (⟨g, 0, none⟩ : Addr).add (i.toNat * szP P e) = ⟨g, i.toNat * szP P e + 0, none⟩ := by
      unfold Addr.add
      split
      · rename_i q; rw [q]
      · simp
    refine Did.val R ha hd (u := .pointer (some ⟨g, i.toNat * szP P e + 0, none⟩)) (.ptr _ _ _ _ _ rfl (by rw [R.ver b]; omega) (fun _ => ⟨g, cap, p1, by rw [q1]⟩)) ?_
    subst p3
    simp [execOp, hop, hu, hk, Instr.indexAt, asIntOf, run_underlying hu', h0, h1, sizeOf, typeInfo, hinf, hisz, hadd]
theorem len_of (R : Rel w0 foot omut σ tmps c) {x : PV} {u : Value} (h : RelV c x u) {n : Nat} (hn : lenP x = some n) (hl : ownLive σ.m x = true) : (∃ s, u = .string s ∧ s.size = n ∧ isStr x = true) ∨ (∃ A cap, u = .slice A n cap ∧ isStr x = false) := by
  cases h with
  | str s => simp [lenP] at hn; exact .inl ⟨s, rfl, hn, rfl⟩
  | nils => simp [lenP] at hn; subst hn; exact .inr ⟨_, _, rfl, rfl⟩
  | re ad cap => simp [lenP] at hn; subst hn; exact .inr ⟨_, _, rfl, rfl⟩
  | ro rows A cap sz f h1 hA hz hb hf hc h => simp [lenP] at hn; subst hn; exact .inr ⟨A, cap, rfl, rfl⟩
  | own b v k u h1 hv h =>
    simp [lenP] at hn
    subst hn
    simp only [ownLive] at hl
    split at hl
    · rename_i hk
      obtain ⟨_, _, q⟩ := own_at R (.own b v k u h1 hv h) hk
      rcases q with ⟨p1, p2, p3, p4⟩ | ⟨g, cap, cur, p1, p2, p3, p4⟩
      · exact .inr ⟨none, 0, by rw [p4, p2], rfl⟩
      · exact .inr ⟨_, _, p3, rfl⟩
    · cases hl
  | _ => simp [lenP] at hn
theorem did_len (R : Rel w0 foot omut σ tmps c) {a : Act} (ha : a.tmps = tmps) {o : Oper} (hd : ∀ d, o.dst = some d → d < tmps.size) {t : Nat} {x : Operand} {args : Array Operand} {ts : Array Nat} (hargs : args.toList = [x]) (hts : ts.toList = [t]) (hop : o.op = .call { callee := .builtin .len, args := args, argTypes := ts }) {n : Nat} (hn : lenP (σ.ev x) = some n) (hl : ownLive σ.m (σ.ev x) = true)
    (ht : (if isStr (σ.ev x) = true then strP P t else (elP P t).isSome) = true) (lk : List Id) : Did P w0 foot omut σ c o a ⟨.int .i64 n, lk, []⟩ := by
  obtain rfl : args = #[x] := by rw [← Array.toArray_toList (xs := args), hargs]
  obtain rfl : ts = #[t] := by rw [← Array.toArray_toList (xs := ts), hts]
  refine Did.val R ha hd (u := goInt n) (.int _ _) ?_
  rcases len_of R (R.ev ha x) hn hl with ⟨s, h1, h2, h3⟩ | ⟨A, cap, h1, h3⟩
  · rw [h3] at ht
    subst h2
    simp [execOp, hop, resolve, invoke, h1, Builtin.len_, run_underlying (str_under ht), builtin]
  · rw [h3] at ht
    obtain ⟨e, he⟩ := Option.isSome_iff_exists.1 (by simpa using ht)
    simp [execOp, hop, resolve, invoke, h1, Builtin.len_, run_underlying (el_under he), builtin]
end
end Go.Proofs.Ev
namespace Go.Proofs.Ev
open Go Go.RowKit
set_option linter.unusedVariables false
set_option linter.unusedSimpArgs false
section
variable {P : Program} {w0 : World} {foot omut : Nat → Prop} {σ : St} {tmps : Array Value} {c : Cx}
/-- What an append leaves: the same block, with room; or a new one. -/
def AppOut (P : Program) (w : World) (t t' ty e : Nat) (sz : Nat) (v y : Value) (n m : Nat) (xs news : List Value) : Prop :=
    ∃ v' w', (Builtin.append_ #[t, t'] ty #[v, y]).run P w = .ok v' w' ∧ w'.os = w.os ∧ w'.tape = w.tape ∧ w'.output = w.output ∧ w.heap.size ≤ w'.heap.size ∧
      ((v = .slice none 0 0 ∧ m = 0 ∧ v' = v ∧ w' = w) ∨
       ∃ g' cap' cur', v' = .slice (some ⟨g', 0, none⟩) (n + m) cap' ∧ w'.heap[g']? = some (.cells cur' e (0, 0)) ∧ n + m ≤ cap' ∧ cap' ≤ maxLen ∧ cap' * sz ≤ cur'.size ∧ cur'.toList.take ((n + m) * sz) = xs ++ news ∧
         ((w.heap.size ≤ g' ∧ ∀ k, k < w.heap.size → w'.heap[k]? = w.heap[k]?) ∨ (∃ cap, v = .slice (some ⟨g', 0, none⟩) n cap ∧ cap' = cap ∧ ∀ k, k ≠ g' → w'.heap[k]? = w.heap[k]?)))
/-- What is asked of the row that is appended to. -/
def AppTo (w : World) (e sz : Nat) (v : Value) (n : Nat) (xs : List Value) : Prop := (v = .slice none 0 0 ∧ n = 0) ∨ ∃ g cap cur, v = .slice (some ⟨g, 0, none⟩) n cap ∧ w.heap[g]? = some (.cells cur e (0, 0)) ∧ n ≤ cap ∧ cap ≤ maxLen ∧ cap * sz ≤ cur.size ∧ cur.toList.take (n * sz) = xs
theorem run_app (w : World) (t ty e : Nat) (i : TypeInfo) (z : Value) (ht : P.underlying t = some (.slice e)) (hi : P.info? e = some i) (hz : i.zero = some z) (hzs : z.cells.size = i.size) (hsz : 0 < i.size)
    (v : Value) (n : Nat) (xs : List Value) (hxl : xs.length = n * i.size) (hv : AppTo w e i.size v n xs)
    (y : Value) (m : Nat) (news : List Value) (hl : news.length = m * i.size) (hy : (y = .slice none 0 0 ∧ m = 0) ∨ ∃ a cp, y = .slice (some a) m cp ∧ ∀ j u, news[j]? = some u → w.cell? (a.add j) = some u) (h1 : ∀ u ∈ news, u.oneCell' = true)
    (h63 : n + m ≤ maxLen) (hbytes : (n + m) * i.bytes ≤ 140737488355328) : AppOut P w t t ty e i.size v y n m xs news := by
  have hmx : n + m ≤ 9223372036854775807 := by simp only [maxLen] at h63; omega
  have hlen : (xs ++ news).length = (n + m) * i.size := by rw [List.length_append, hxl, hl, Nat.add_mul]
  rcases hy with ⟨rfl, rfl⟩ | ⟨a, cp, rfl, hya⟩
  · have hn0 : news = [] := List.eq_nil_of_length_eq_zero (by simpa using hl)
    subst hn0
    rcases hv with ⟨rfl, rfl⟩ | ⟨g, cap, cur, rfl, hg, hnc, hcm, hcs, htk⟩
    · have hx0 : xs = [] := List.eq_nil_of_length_eq_zero (by simpa using hxl)
      exact ⟨.slice none 0 0, w, run_append_owned_none (P := P) w 0 t ty e i i.size ht hi _ 0 [] (World.ownsRow_nil w 0 e i.size), rfl, rfl, rfl, Nat.le_refl _, .inl ⟨rfl, rfl, rfl, rfl⟩⟩
    · refine ⟨_, w, (by simp [Builtin.append_, run_underlying ht, sizeOf, typeInfo, hi, Builtin.lenOf, Builtin.firstCells, hnc, storeCells] : (Builtin.append_ #[t, t] ty #[.slice (some ⟨g, 0, none⟩) n cap, .slice none 0 0]).run P w = .ok (.slice (some ⟨g, 0, none⟩) n cap) w), rfl, rfl, rfl, Nat.le_refl _, .inr ⟨g, cap, cur, rfl, hg, by omega, hcm, hcs, by simpa using htk, .inr ⟨cap, rfl, rfl, fun _ _ => rfl⟩⟩⟩
  · rcases hv with ⟨rfl, rfl⟩ | ⟨g, cap, cur, rfl, hg, hnc, hcm, hcs, htk⟩
    · have hx0 : xs = [] := List.eq_nil_of_length_eq_zero (by simpa using hxl)
      subst hx0
      by_cases hm : m = 0
      · subst hm
        have hn0 : news = [] := List.eq_nil_of_length_eq_zero (by simpa using hl)
        subst hn0
        refine ⟨.slice none 0 0, w, ?_, rfl, rfl, rfl, Nat.le_refl _, .inl ⟨rfl, rfl, rfl, rfl⟩⟩
        simp [Builtin.append_, run_underlying ht, sizeOf, typeInfo, hi, Builtin.lenOf, Builtin.firstCells, loadCells, loadCellsFrom]
      · have hr := run_append_nil (P := P) w t ty e i z ht hi hz a m cp news hl hya (by omega) (by omega) (by have hb := hbytes; simp only [Nat.zero_add] at hb; omega)
        have hge := grownCap_ge w m 0 e
        have hcm := grownCap_le_maxLen w m 0 e (by omega)
        refine ⟨_, _, hr, rfl, rfl, rfl, by simp, .inr ⟨w.heap.size, _, _, by rw [Nat.zero_add], heap_alloc_new w.drew _, by omega, hcm, ?_, ?_, .inl ⟨Nat.le_refl _, fun k hk => heap_alloc_old w.drew _ k hk⟩⟩⟩
        · refine Nat.le_of_eq (Eq.symm ?_)
          simp only [Array.size_append, List.size_toArray, size_zeroCells, hzs, hl, ← Nat.add_mul]
          congr 1
          omega
        · simp only [Array.toList_append, List.nil_append, Nat.zero_add]
          rw [← hl]
          exact List.take_left
    · by_cases hroom : n + m ≤ cap
      · have hfit : n * i.size + news.length ≤ cur.size := by rw [hl, ← Nat.add_mul]; exact Nat.le_trans (Nat.mul_le_mul_right _ hroom) hcs
        have hr := run_append_room (P := P) w t ty e i ht hi g n cap cur hg a m cp news hl hya h1 hroom hfit
        refine ⟨_, _, hr, rfl, rfl, rfl, by simp, .inr ⟨g, cap, _, rfl, setRow_heap w g cur _ e _ hg, hroom, hcm, ?_, ?_, .inr ⟨cap, rfl, rfl, fun k hk => setRow_other w g k _ hk⟩⟩⟩
        · simp only [List.size_toArray, List.length_append, List.length_take, List.length_drop, Array.length_toList]
          omega
        · rw [htk, ← hlen]
          exact List.take_left
      · have hcells : ∀ j u, xs[j]? = some u → w.cell? ((⟨g, 0, none⟩ : Addr).add j) = some u := by
          intro j u hu
          have hadd : (⟨g, 0, none⟩ : Addr).add j = ⟨g, j, none⟩ := by unfold Addr.add; split <;> simp_all
          rw [hadd, cell_block hg]
          rw [← htk, List.getElem?_take] at hu
          split at hu
          · simpa using hu
          · cases hu
        have hr := run_append_grow (P := P) w t ty e i z ht hi hz ⟨g, 0, none⟩ n cap xs hxl hcells a m cp news hl hya (by omega) (by omega) (growslice_fits (by omega) hbytes)
        have hge := grownCap_ge w (n + m) cap e
        have hcm := grownCap_le_maxLen w (n + m) cap e h63
        refine ⟨_, _, hr, rfl, rfl, rfl, by simp, .inr ⟨w.heap.size, _, _, rfl, heap_alloc_new w.drew _, hge, hcm, ?_, ?_, .inl ⟨Nat.le_refl _, fun k hk => heap_alloc_old w.drew _ k hk⟩⟩⟩
        · refine Nat.le_of_eq (Eq.symm ?_)
          simp only [Array.size_append, List.size_toArray, size_zeroCells, hzs, hxl, hl, ← Nat.add_mul]
          congr 1
          omega
        · simp only [Array.toList_append]
          rw [← hlen]
          exact List.take_left
theorem run_app_str (w : World) (t t' ty e : Nat) (i : TypeInfo) (z : Value) (ht : P.underlying t = some (.slice e)) (hu : P.underlying t' = some .string) (hi : P.info? e = some i) (hz : i.zero = some z) (hzs : z.cells.size = i.size) (hs1 : i.size = 1)
    (v : Value) (n : Nat) (xs : List Value) (hxl : xs.length = n * i.size) (hv : AppTo w e i.size v n xs) (s : ByteArray)
    (h63 : n + s.size ≤ maxLen) (hbytes : (n + s.size) * i.bytes ≤ 140737488355328) : AppOut P w t t' ty e i.size v (.string s) n s.size xs (Go.Lib.strCells s) := by
  have hmx : n + s.size ≤ 9223372036854775807 := by simp only [maxLen] at h63; omega
  have hl := Go.Lib.strCells_length s
  have hlen : (xs ++ Go.Lib.strCells s).length = (n + s.size) * i.size := by rw [List.length_append, hxl, hl, hs1]; omega
  rcases hv with ⟨rfl, rfl⟩ | ⟨g, cap, cur, rfl, hg, hnc, hcm, hcs, htk⟩
  · have hx0 : xs = [] := List.eq_nil_of_length_eq_zero (by simpa using hxl)
    subst hx0
    by_cases hm : s.size = 0
    · refine ⟨.slice none 0 0, w, ?_, rfl, rfl, rfl, Nat.le_refl _, .inl ⟨rfl, hm, rfl, rfl⟩⟩
      have hd : s.data = #[] := Array.eq_empty_of_size_eq_zero hm
      simp [Builtin.append_, run_underlying ht, run_underlying hu, sizeOf, typeInfo, hi, Builtin.lenOf, Builtin.firstCells, hm, hd]
    · have hr := run_append_nil_string (P := P) w t t' ty e i z ht hu hi hz s (by omega) (by omega) (by have hb := hbytes; simp only [Nat.zero_add] at hb; omega)
      have hge := grownCap_ge w s.size 0 e
      have hcm := grownCap_le_maxLen w s.size 0 e (by omega)
      have hsz : (s.data.map (fun b => Value.int .u8 b.toNat)).size = s.size := by rw [Array.size_map]; rfl
      refine ⟨_, _, hr, rfl, rfl, rfl, by simp, .inr ⟨w.heap.size, _, _, by rw [Nat.zero_add], heap_alloc_new w.drew _, by omega, hcm, ?_, ?_, .inl ⟨Nat.le_refl _, fun k hk => heap_alloc_old w.drew _ k hk⟩⟩⟩
      · refine Nat.le_of_eq (Eq.symm ?_)
        simp only [Array.size_append, size_zeroCells, hzs, hsz, hs1, Nat.mul_one]
        omega
      · simp only [Array.toList_append, List.nil_append, Nat.zero_add, hs1, Nat.mul_one, Array.toList_map]
        rw [← hl]
        exact List.take_left
  · by_cases hroom : n + s.size ≤ cap
    · have hfit : n + s.size ≤ cur.size := by rw [hs1, Nat.mul_one] at hcs; omega
      have hr := Go.Lib.run_append_room_string (P := P) w t t' ty e i ht hu hi hs1 g n cap cur hg s hroom hfit
      refine ⟨_, _, hr, rfl, rfl, rfl, by simp, .inr ⟨g, cap, _, rfl, setRow_heap w g cur _ e _ hg, hroom, hcm, ?_, ?_, .inr ⟨cap, rfl, rfl, fun k hk => setRow_other w g k _ hk⟩⟩⟩
      · rw [hs1] at hcs ⊢
        simp only [List.size_toArray, List.length_append, List.length_take, List.length_drop, Array.length_toList, hl]
        omega
      · rw [hs1, Nat.mul_one] at htk hlen
        rw [htk, hs1, Nat.mul_one, ← hlen]
        exact List.take_left
    · have hcells : ∀ j u, xs[j]? = some u → w.cell? ((⟨g, 0, none⟩ : Addr).add j) = some u := by
        intro j u hu
        have hadd : (⟨g, 0, none⟩ : Addr).add j = ⟨g, j, none⟩ := by unfold Addr.add; split <;> simp_all
        rw [hadd, cell_block hg]
        rw [← htk, List.getElem?_take] at hu
        split at hu
        · simpa using hu
        · cases hu
      have hr := Go.Lib.run_append_grow_string (P := P) w t t' ty e i z ht hu hi hz ⟨g, 0, none⟩ n cap xs hxl hcells s (by omega) (by omega) (growslice_fits (by omega) hbytes)
      have hge := grownCap_ge w (n + s.size) cap e
      have hcm := grownCap_le_maxLen w (n + s.size) cap e h63
      refine ⟨_, _, hr, rfl, rfl, rfl, by simp, .inr ⟨w.heap.size, _, _, rfl, heap_alloc_new w.drew _, hge, hcm, ?_, ?_, .inl ⟨Nat.le_refl _, fun k hk => heap_alloc_old w.drew _ k hk⟩⟩⟩
      · refine Nat.le_of_eq (Eq.symm ?_)
        rw [hs1, Nat.mul_one] at hxl
        simp only [Array.size_append, List.size_toArray, size_zeroCells, hzs, hxl, hl, hs1, Nat.mul_one]
        omega
      · simp only [Array.toList_append]
        rw [← hlen]
        exact List.take_left
/-- A source of rows: where its cells lie, and what they are. -/
def Src (c : Cx) (sz : Nat) (y : Value) (new : List (List PV)) : Prop := ∃ news : List Value, news.length = new.length * sz ∧ ((y = .slice none 0 0 ∧ new.length = 0) ∨ ∃ a cp, y = .slice (some a) new.length cp ∧ ∀ j u, news[j]? = some u → c.w.cell? (a.add j) = some u) ∧ (∀ u ∈ news, u.oneCell' = true) ∧
  (∀ (i : Nat) (row : List PV) (j : Nat) (x : PV), new[i]? = some row → row[j]? = some x → ∃ u, news[i * sz + j]? = some u ∧ RelV c x u)
theorem new_all {new : List (List PV)} {sz : Nat} (h : (new.all fun r => decide (r.length = sz) && r.all PV.sf) = true) : (∀ (i : Nat) (row : List PV), new[i]? = some row → row.length = sz) ∧ (∀ (i : Nat) (row : List PV) (j : Nat) (x : PV), new[i]? = some row → row[j]? = some x → x.sf = true) := by
  have h' := List.all_eq_true.1 h
  refine ⟨fun i row hi => ?_, fun i row j x hi hx => ?_⟩
  · have := h' row (List.mem_of_getElem? hi)
    simp at this
    exact this.1
  · have := h' row (List.mem_of_getElem? hi)
    rw [Bool.and_eq_true] at this
    exact List.all_eq_true.1 this.2 x (List.mem_of_getElem? hx)
theorem Src.nils {sz : Nat} : Src c sz (.slice none 0 0) [] := ⟨[], by simp, .inl ⟨rfl, rfl⟩, by simp, by simp⟩
theorem Src.of_nils {sz : Nat} {u : Value} (h : RelV c .nils u) : Src c sz u [] := by
  cases h
  exact Src.nils
theorem Src.of_re {sz : Nat} {u : Value} (h : RelV c .re u) : Src c sz u [] := by
  cases h with
  | re ad cap => exact ⟨[], by simp, .inr ⟨ad, cap, rfl, by simp⟩, by simp, by simp⟩
theorem Src.le {d : Cx} (hle : c.le d) (hw : d.w = c.w) {sz : Nat} {u : Value} {new : List (List PV)} (h : Src c sz u new) : Src d sz u new := by
  obtain ⟨news, h1, h2, h3, h4⟩ := h
  refine ⟨news, h1, ?_, h3, fun i row j x p q => ?_⟩
  · rcases h2 with h2 | ⟨a, cp, h2, h5⟩
    · exact .inl h2
    · exact .inr ⟨a, cp, h2, fun j u hu => by rw [hw]; exact h5 j u hu⟩
  · obtain ⟨u, u1, u2⟩ := h4 i row j x p q
    exact ⟨u, u1, u2.le hle⟩
theorem Src.ro {new : List (List PV)} {y : Value} {sz : Nat} (h0 : 0 < sz) (h : RelV c (.ro new) y) (hn : (new.all fun r => decide (r.length = sz) && r.all PV.sf) = true) : Src c sz y new := by
  obtain ⟨n1, n2⟩ := new_all hn
  cases h with
  | ro rows A cap sz' f hn' hA hz hb hf hc hv =>
    cases A with
    | none =>
      obtain ⟨e1, e2⟩ := hA rfl
      subst e1; subst e2
      exact Src.nils
    | some ad =>
      by_cases hne : new.length = 0
      · refine ⟨[], by simp [hne], .inr ⟨ad, cap, rfl, by simp⟩, by simp, fun i row j x hi => ?_⟩
        have := (List.getElem?_eq_some_iff.1 hi).1
        omega
      · obtain ⟨s1, s2, s4⟩ := hb ad rfl (by rintro rfl; exact hne rfl)
        have hse : sz' = sz := by
          have a1 := hz 0 new[0] (List.getElem?_eq_getElem (by omega))
          have a2 := n1 0 new[0] (List.getElem?_eq_getElem (by omega))
          omega
        subst hse
        let news := (List.range (new.length * sz')).map fun k => f (k / sz') (k % sz')
        have hnl : news.length = new.length * sz' := by simp [news]
        have hat : ∀ k, k < new.length * sz' → ∃ row x, new[k / sz']? = some row ∧ row[k % sz']? = some x := by
          intro k hk
          have hk1 : k / sz' < new.length := Nat.div_lt_of_lt_mul (by rw [Nat.mul_comm]; exact hk)
          have hr := n1 _ new[k / sz'] (List.getElem?_eq_getElem hk1)
          have hm : k % sz' < new[k / sz'].length := by rw [hr]; exact Nat.mod_lt _ h0
          exact ⟨_, _, List.getElem?_eq_getElem hk1, List.getElem?_eq_getElem hm⟩
        have hget : ∀ k u, news[k]? = some u → k < new.length * sz' ∧ u = f (k / sz') (k % sz') := by
          intro k u hu
          have hk : k < new.length * sz' := by rw [← hnl]; exact (List.getElem?_eq_some_iff.1 hu).1
          refine ⟨hk, ?_⟩
          simp [news, hk] at hu
          exact hu.symm
        refine ⟨news, hnl, .inr ⟨ad, cap, rfl, fun k u hu => ?_⟩, fun u hu => ?_, fun i row j x hi hx => ?_⟩
        · obtain ⟨hk, rfl⟩ := hget k u hu
          obtain ⟨row, x, h1, h2⟩ := hat k hk
          have := hc ad _ row _ x rfl h1 h2
          rw [Nat.mul_comm, Nat.div_add_mod] at this
          rw [← this]
          unfold Addr.add
          split
          · rename_i q; rw [q]; cases ad; simp only at s1; subst s1; rfl
          · rfl
        · obtain ⟨k, hk⟩ := List.mem_iff_getElem?.1 hu
          obtain ⟨hk', rfl⟩ := hget k u hk
          obtain ⟨row, x, h1, h2⟩ := hat k hk'
          exact one_cell (hv _ row _ x h1 h2) (PV.one_of_sf (n2 _ row _ x h1 h2))
        · have hj : j < sz' := by rw [← n1 i row hi]; exact (List.getElem?_eq_some_iff.1 hx).1
          have hi' : i < new.length := (List.getElem?_eq_some_iff.1 hi).1
          have hk : i * sz' + j < new.length * sz' := by
            have := @row_fit i sz' (j + 1) new.length hi' (by omega)
            omega
          have e1 : (i * sz' + j) / sz' = i := by rw [Nat.add_comm, Nat.mul_comm, Nat.add_mul_div_left _ _ h0, Nat.div_eq_of_lt hj, Nat.zero_add]
          have e2 : (i * sz' + j) % sz' = j := by rw [Nat.add_comm, Nat.mul_comm, Nat.add_mul_mod_self_left, Nat.mod_eq_of_lt hj]
          refine ⟨f i j, ?_, hv i row j x hi hx⟩
          simp [news, hk, e1, e2]
theorem Src.own (R : Rel w0 foot omut σ tmps c) {b : Id} {v n : Nat} {y : Value} (h : RelV c (.own b v n) y) {fl : Bool} {e sz : Nat} {rs : List (List PV)} (hl : look σ.m b v = some (.rows fl e sz rs)) (hn : n ≤ rs.length) : Src c sz y (rs.take n) := by
  obtain ⟨q1, h0, q⟩ := own_at R h hl
  have hlen : (rs.take n).length = n := by simp; omega
  rcases q with ⟨p1, p2, p3, p4⟩ | ⟨g, cap, cur, p1, p2, p3, p4, p5, p6, p7, p8, p9, p10, p11⟩
  · subst p2; subst p4
    simpa using Src.nils (c := c) (sz := sz)
  · subst p3
    have hcap : n * sz ≤ cur.toList.length := by rw [Array.length_toList]; exact Nat.le_trans (Nat.mul_le_mul_right _ p2) p7
    have htake : ∀ i row, (rs.take n)[i]? = some row → i < n ∧ rs[i]? = some row := by
      intro i row hi
      rw [List.getElem?_take] at hi
      split at hi
      · rename_i h; exact ⟨h, hi⟩
      · cases hi
    have hone : ∀ (k : Nat) (u : Value), (cur.toList.take (n * sz))[k]? = some u → u.oneCell' = true := by
      intro k u hu
      rw [List.getElem?_take] at hu
      split at hu
      · rename_i hk
        have hk1 : k / sz < n := Nat.div_lt_of_lt_mul (by rw [Nat.mul_comm]; exact hk)
        have hr := p8 _ rs[k / sz] (List.getElem?_eq_getElem (by omega))
        have hm : k % sz < rs[k / sz].length := by rw [hr]; exact Nat.mod_lt _ h0
        obtain ⟨z, z1, z2⟩ := p10 _ _ _ _ (List.getElem?_eq_getElem (show k / sz < rs.length by omega)) (List.getElem?_eq_getElem hm)
        rw [Nat.mul_comm, Nat.div_add_mod] at z1
        have : z = u := by
          rw [Array.getElem?_toList] at hu
          rw [hu] at z1
          exact (Option.some.inj z1).symm
        subst this
        exact one_cell z2 (p9 _ _ _ _ (List.getElem?_eq_getElem (show k / sz < rs.length by omega)) (List.getElem?_eq_getElem hm)).1
      · cases hu
    refine ⟨cur.toList.take (n * sz), by rw [List.length_take, hlen]; omega, .inr ⟨⟨g, 0, none⟩, cap, by rw [hlen], fun j u hu => ?_⟩, fun u hu => ?_, fun i row j x hi hx => ?_⟩
    · have hadd : (⟨g, 0, none⟩ : Addr).add j = ⟨g, j, none⟩ := by unfold Addr.add; split <;> simp_all
      rw [hadd, cell_block p4]
      rw [List.getElem?_take] at hu
      split at hu
      · simpa using hu
      · cases hu
    · obtain ⟨k, hk⟩ := List.mem_iff_getElem?.1 hu
      exact hone k u hk
    · obtain ⟨hin, hi'⟩ := htake i row hi
      obtain ⟨u, u1, u2⟩ := p10 i row j x hi' hx
      have hj : j < sz := by rw [← p8 i row hi']; exact (List.getElem?_eq_some_iff.1 hx).1
      refine ⟨u, ?_, u2⟩
      rw [List.getElem?_take, if_pos (by have := @row_fit i sz (j + 1) n hin (by omega); omega)]
      simpa using u1
theorem Src.own' (R : Rel w0 foot omut σ tmps c) {b : Id} {v n : Nat} {y : Value} (h : RelV c (.own b v n) y) {fl : Bool} {e sz sz' : Nat} {rs : List (List PV)} (hl : look σ.m b v = some (.rows fl e sz' rs)) (hn : n ≤ rs.length) (hs : ((rs.take n).all fun r => decide (r.length = sz) && r.all PV.sf) = true) (h0 : 0 < sz) : Src c sz y (rs.take n) := by
  by_cases h1 : n = 0
  · subst h1
    obtain ⟨q1, h0', q⟩ := own_at R h hl
    rcases q with ⟨p1, p2, p3, p4⟩ | ⟨g, cap, cur, p1, p2, p3, p4, p5⟩
    · subst p4; simpa using Src.nils (c := c) (sz := sz)
    · refine ⟨[], by simp, .inr ⟨_, cap, by simpa using p3, by simp⟩, by simp, by simp⟩
  · obtain ⟨q1, h0', q⟩ := own_at R h hl
    have : sz' = sz := by
      rcases q with ⟨p1, p2, p3, p4⟩ | ⟨g, cap, cur, p1, p2, p3, p4, p5, p6, p7, p8, p9⟩
      · exact absurd p2 h1
      · have a1 := p8 0 rs[0] (List.getElem?_eq_getElem (by omega))
        have a2 := (new_all hs).1 0 rs[0] (by rw [List.getElem?_take, if_pos (by omega)]; exact List.getElem?_eq_getElem (by omega))
        omega
    subst this
    exact Src.own R h hl hn
/-- A source of rows, as an append takes it. -/
def SrcG (P : Program) (w : World) (c : Cx) (t t' e sz : Nat) (y : Value) (new : List (List PV)) : Prop := ∃ news : List Value, news.length = new.length * sz ∧
  (∀ (ty : Nat) (i : TypeInfo) (z : Value) (v : Value) (n : Nat) (xs : List Value), P.info? e = some i → i.zero = some z → z.cells.size = i.size → i.size = sz → xs.length = n * i.size → AppTo w e i.size v n xs → n + new.length ≤ maxLen → (n + new.length) * i.bytes ≤ 140737488355328 → AppOut P w t t' ty e i.size v y n new.length xs news) ∧
  (∀ (i : Nat) (row : List PV) (j : Nat) (x : PV), new[i]? = some row → row[j]? = some x → ∃ u, news[i * sz + j]? = some u ∧ RelV c x u)
theorem Src.g {t e sz : Nat} {y : Value} {new : List (List PV)} (ht : P.underlying t = some (.slice e)) (h0 : 0 < sz) (h : Src c sz y new) : SrcG P c.w c t t e sz y new := by
  obtain ⟨news, h1, h2, h3, h4⟩ := h
  refine ⟨news, h1, fun ty i z v n xs hi hz hzs hise hxl hv h63 hb => ?_, h4⟩
  subst hise
  exact run_app c.w t ty e i z ht hi hz hzs h0 v n xs hxl hv y new.length news h1 h2 h3 h63 hb
theorem byteRows_len (s : ByteArray) : (byteRows s).length = s.size := by
  unfold byteRows
  rw [List.length_map]
  rfl
theorem SrcG.str {t t' e : Nat} {s : ByteArray} (ht : P.underlying t = some (.slice e)) (hu : P.underlying t' = some .string) : SrcG P c.w c t t' e 1 (.string s) (byteRows s) := by
  refine ⟨Go.Lib.strCells s, by rw [Go.Lib.strCells_length, byteRows_len, Nat.mul_one], fun ty i z v n xs hi hz hzs hise hxl hv h63 hb => ?_, fun i row j x hi hx => ?_⟩
  · rw [byteRows_len] at h63 hb ⊢
    exact run_app_str c.w t t' ty e i z ht hu hi hz hzs hise v n xs hxl hv s h63 hb
  · unfold byteRows at hi
    rw [List.getElem?_map] at hi
    cases hb : s.data.toList[i]? with
    | none => rw [hb] at hi; cases hi
    | some b =>
      rw [hb] at hi
      obtain rfl := Option.some.inj hi
      cases j with
      | succ j => simp at hx
      | zero =>
        obtain rfl : PV.int .u8 b.toNat = x := by simpa using hx
        refine ⟨.int .u8 b.toNat, ?_, .int _ _⟩
        unfold Go.Lib.strCells
        rw [Nat.mul_one, Nat.add_zero, List.getElem?_map, hb]
        rfl
theorem SrcG.le {d : Cx} (hle : c.le d) (hw : d.w = c.w) {t t' e sz : Nat} {y : Value} {new : List (List PV)} (h : SrcG P c.w c t t' e sz y new) : SrcG P d.w d t t' e sz y new := by
  obtain ⟨news, h1, h2, h4⟩ := h
  refine ⟨news, h1, by rw [hw]; exact h2, fun i row j x p q => ?_⟩
  obtain ⟨u, u1, u2⟩ := h4 i row j x p q
  exact ⟨u, u1, u2.le hle⟩
theorem did_append (R : Rel w0 foot omut σ tmps c) {a : Act} (ha : a.tmps = tmps) {o : Oper} (hd : ∀ d, o.dst = some d → d < tmps.size) {t t' e : Nat} {x y : Operand} {args : Array Operand} {ts : Array Nat} (hargs : args.toList = [x, y]) (hts : ts.toList = [t, t']) (hop : o.op = .call { callee := .builtin .append, args := args, argTypes := ts })
    (ht : elP P t = some e) {zs : List Value} (hz : zeroP P e = some zs) {b : Id} {v n : Nat} (hv : RelV c (.own b v n) (a.eval x)) {sz : Nat} {rs : List (List PV)} (hl : look σ.m b v = some (.rows true e sz rs)) (hsz : sz = szP P e) (hzl : zs.length = sz) (hn : n ≤ rs.length)
    {new : List (List PV)} (hy : SrcG P c.w c t t' e sz (a.eval y) new) (hnew : (new.all fun r => decide (r.length = sz) && r.all PV.sf) = true) (h63 : n + new.length ≤ 9223372036854775807) (hby : (n + new.length) * byP P e ≤ 140737488355328) (lk : List Id) :
    Did P w0 foot omut σ c o a ⟨.own b (v + 1) (n + new.length), lk, [(b, ⟨v + 1, some (.rows true e sz (rs.take n ++ new))⟩)]⟩ := by
  obtain rfl : args = #[x, y] := by rw [← Array.toArray_toList (xs := args), hargs]
  obtain rfl : ts = #[t, t'] := by rw [← Array.toArray_toList (xs := ts), hts]
  obtain ⟨n1, n2⟩ := new_all hnew
  obtain ⟨l1, l2⟩ := look_live hl
  generalize hu : a.eval x = u at hv
  obtain ⟨q1, h0, q⟩ := own_at R hv hl
  obtain ⟨inf, hinf, hisz⟩ := size_info (P := P) (t := e) rfl (by omega)
  obtain ⟨inf', z, hi', hz1, hz2⟩ := zero_info hz
  rw [hinf] at hi'
  cases hi'
  have hby' : byP P e = inf.bytes := by unfold byP; rw [hinf]; rfl
  have hse : inf.size = sz := by omega
  obtain ⟨news, s1, s2, s4⟩ := hy
  have hlen : (rs.take n ++ new).length = n + new.length := by simp; omega
  obtain ⟨xs, hxl, hvv, hxs⟩ : ∃ xs : List Value, xs.length = n * inf.size ∧ AppTo c.w e inf.size u n xs ∧
      (∀ (i : Nat) (row : List PV) (j : Nat) (x : PV), i < n → rs[i]? = some row → row[j]? = some x → ∃ u, xs[i * sz + j]? = some u ∧ RelV c x u) := by
    rcases q with ⟨p1, p2, p3, p4⟩ | ⟨g, cap, cur, p1, p2, p3, p4, p5, p6, p7, p8, p9, p10, p11⟩
    · exact ⟨[], by simp [p2], .inl ⟨p4, p2⟩, fun i row j x h => by omega⟩
    · refine ⟨cur.toList.take (n * inf.size), ?_, .inr ⟨g, cap, cur, p3, p4, p2, p6, by rw [hse]; exact p7, rfl⟩, fun i row j x hin h1 h2 => ?_⟩
      · rw [List.length_take, Array.length_toList, hse]
        exact Nat.min_eq_left (Nat.le_trans (Nat.mul_le_mul_right _ p2) p7)
      · obtain ⟨u, u1, u2⟩ := p10 i row j x h1 h2
        have hj : j < sz := by rw [← p8 i row h1]; exact (List.getElem?_eq_some_iff.1 h2).1
        refine ⟨u, ?_, u2⟩
        rw [List.getElem?_take, if_pos (by have := @row_fit i sz (j + 1) n hin (by omega); rw [hse]; omega)]
        simpa using u1
  obtain ⟨v', w', r1, r2, r3, r4, r5, r6⟩ := s2 o.type inf z u n xs hinf hz1 (by rw [← Array.length_toList, hz2, hzl, hse]) hse hxl hvv (by simp only [maxLen]; omega) (by rw [← hby']; exact hby)
  have hrun : (execOp a.eval o).run P c.w = .ok (.value v') w' := by
    simp only [execOp, hop, resolve, invoke, builtin, hu]
    simp only [List.map_toArray, List.map_cons, List.map_nil, hu, Sem.run_bind, Sem.run_pure, Result.andThen_ok, r1]
  have hvis : ∀ (i : Nat) (row : List PV), (rs.take n ++ new)[i]? = some row → (i < n ∧ rs[i]? = some row) ∨ (n ≤ i ∧ new[i - n]? = some row) := by
    intro i row hi
    by_cases h : i < n
    · rw [List.getElem?_append_left (by simp; omega), List.getElem?_take, if_pos h] at hi
      exact .inl ⟨h, hi⟩
    · rw [List.getElem?_append_right (by simp; omega)] at hi
      simp only [List.length_take] at hi
      rw [Nat.min_eq_left hn] at hi
      exact .inr ⟨by omega, hi⟩
  have hrowlen : ∀ (i : Nat) (row : List PV), rs[i]? = some row → row.length = sz := by
    intro i row hi
    have hB := R.mem b _ l2
    cases hB with
    | none => simp at hi
    | rows fl e sz rs g' cap' cur hz h0 ha' ho hh' hn hm hs hl' h1' hr => exact hl' i row hi
  have hone : ∀ (i : Nat) (row : List PV) (j : Nat) (x : PV), rs[i]? = some row → row[j]? = some x → x.one = true ∧ (true = true → x.sf = true) := by
    intro i row j x hi hx
    have hB := R.mem b _ l2
    cases hB with
    | none => simp at hi
    | rows fl e sz rs g' cap' cur hz h0 ha' ho hh' hn hm hs hl' h1' hr => exact h1' i row j x hi hx
  rcases r6 with ⟨p1, p2, p3, p4⟩ | ⟨g', cap', cur', p1, p2, p3, p4, p5, p6, p7⟩
  · subst p3; subst p4
    have hn0 : n = 0 := by
      rcases hvv with ⟨_, h⟩ | ⟨g, cap, cur, h, _⟩
      · exact h
      · rw [p1] at h; cases h
    have hnew0 : new = [] := List.eq_nil_of_length_eq_zero p2
    subst hn0
    subst hnew0
    refine Did.turn R ha hd b _ _ v' c.w none sz (.inl hrun) (by rw [R.ver b]; omega) (fun q => by have := R.ver b; omega) rfl rfl rfl (Nat.le_refl _) (fun _ _ _ => rfl) (fun g cap q => by cases q) (fun d _ _ h3 h4 _ _ => by simpa using RelB.none true e sz h4 h0 h3) (fun d _ _ h3 h4 h5 _ => .own _ _ _ _ (by rw [p1]; rfl) (by rw [h5]; exact Nat.le_refl _) (fun _ => .inl ⟨h3, by simp, p1⟩))
  · refine Did.turn R ha hd b _ _ v' w' (some (g', cap')) sz (.inl hrun) (by rw [R.ver b]; omega) (fun q => by have := R.ver b; omega) r2 r3 r4 r5 ?_ ?_ ?_ ?_
    · intro k hk hno
      rcases p7 with ⟨_, h⟩ | ⟨cap, hu2, hc2, h⟩
      · exact h k hk
      · refine h k (fun e => ?_)
        subst e
        rcases q with ⟨a1, a2, a3, a4⟩ | ⟨g, cap3, cur, a1, a2, a3, a4⟩
        · rw [a4] at hu2; cases hu2
        · rw [a3] at hu2
          cases hu2
          exact hno _ _ l2 a1
    · intro g cap e
      cases e
      rcases p7 with ⟨h, _⟩ | ⟨cap, hu2, hc2, h⟩
      · exact .inl h
      · rcases q with ⟨a1, a2, a3, a4⟩ | ⟨g, cap3, cur, a1, a2, a3, a4⟩
        · rw [a4] at hu2; cases hu2
        · rw [a3] at hu2
          cases hu2
          exact .inr ⟨_, _, l2, a1⟩
    · intro d hw hb hat hsz' hver hle
      refine .rows true e sz _ g' cap' cur' hsz' h0 hat ?_ (by rw [hw]; exact p2) (by rw [hlen]; exact p3) p4 ⟨by rw [hse] at p5; exact p5, fun h => by cases h⟩ ?_ ?_ ?_
      · rw [hb]
        rcases p7 with ⟨h, _⟩ | ⟨cap, hu2, hc2, h⟩
        · exact .inl (Nat.le_trans R.bs h)
        · rcases q with ⟨a1, a2, a3, a4⟩ | ⟨g, cap3, cur, a1, a2, a3, a4, a5, a6, a7, a8, a9, a10, a11⟩
          · rw [a4] at hu2; cases hu2
          · rw [a3] at hu2
            cases hu2
            exact a11
      · intro i row hi
        rcases hvis i row hi with ⟨_, h⟩ | ⟨_, h⟩
        · exact hrowlen i row h
        · exact n1 _ row h
      · intro i row j x hi hx
        rcases hvis i row hi with ⟨_, h⟩ | ⟨_, h⟩
        · exact hone i row j x h hx
        · exact ⟨PV.one_of_sf (n2 _ row j x h hx), fun _ => n2 _ row j x h hx⟩
      · intro i row j x hi hx
        have hil : i < n + new.length := by rw [← hlen]; exact (List.getElem?_eq_some_iff.1 hi).1
        have hj : j < sz := by
          have := (List.getElem?_eq_some_iff.1 hx).1
          rcases hvis i row hi with ⟨_, h⟩ | ⟨_, h⟩
          · rw [hrowlen i row h] at this; exact this
          · rw [n1 _ row h] at this; exact this
        have hk : i * sz + j < (n + new.length) * sz := by have := @row_fit i sz (j + 1) _ hil (by omega); omega
        have hcur : ∀ u, (xs ++ news)[i * sz + j]? = some u → cur'[i * sz + j]? = some u := by
          intro u hu'
          rw [← p6, List.getElem?_take] at hu'
          split at hu'
          · simpa using hu'
          · cases hu'
        rcases hvis i row hi with ⟨hin, h⟩ | ⟨hin, h⟩
        · obtain ⟨u, u1, u2⟩ := hxs i row j x hin h hx
          refine ⟨u, hcur u ?_, u2.le hle⟩
          rw [List.getElem?_append_left (List.getElem?_eq_some_iff.1 u1).1]
          exact u1
        · obtain ⟨u, u1, u2⟩ := s4 _ row j x h hx
          refine ⟨u, hcur u ?_, u2.le hle⟩
          have e1 : i * sz + j = xs.length + ((i - n) * sz + j) := by
            rw [hxl, hse]
            have : i * sz = n * sz + (i - n) * sz := by rw [← Nat.add_mul]; congr 1; omega
            omega
          rw [e1, List.getElem?_append_right (by omega)]
          simpa using u1
    · intro d hw hb hat hsz' hver hle
      exact .own _ _ _ _ (by rw [p1]; rfl) (by rw [hver]; exact Nat.le_refl _) (fun _ => .inr ⟨g', cap', hat, by omega, p1⟩)
theorem updm_updm (m : Id → Blk) (b : Id) (x y : Blk) : updm (updm m b x) b y = updm m b y := by
  funext i
  unfold updm
  split <;> rfl
theorem did_append_nil (R : Rel w0 foot omut σ tmps c) {a : Act} (ha : a.tmps = tmps) {o : Oper} (hd : ∀ d, o.dst = some d → d < tmps.size) {t t' e : Nat} {x y : Operand} {args : Array Operand} {ts : Array Nat} (hargs : args.toList = [x, y]) (hts : ts.toList = [t, t']) (hop : o.op = .call { callee := .builtin .append, args := args, argTypes := ts })
    (ht : elP P t = some e) {zs : List Value} (hz : zeroP P e = some zs) (hx : σ.ev x = .nils) (b : Id) {sz : Nat} (hsz : sz = szP P e) (hzl : zs.length = sz) (h0 : 0 < sz)
    {new : List (List PV)} (hy : SrcG P c.w c t t' e sz (a.eval y) new) (hnew : (new.all fun r => decide (r.length = sz) && r.all PV.sf) = true) (h63 : new.length ≤ 9223372036854775807) (hby : new.length * byP P e ≤ 140737488355328) (lk : List Id) :
    Did P w0 foot omut σ c o a ⟨.own b ((σ.m b).ver + 2) new.length, lk, [(b, ⟨(σ.m b).ver + 2, some (.rows true e sz new)⟩)]⟩ := by
  obtain ⟨d, h1, h2, h3, h4, h5, h6, h7⟩ := R.turn b ((σ.m b).ver + 1) (.rows true e sz []) c.w none sz (by rw [R.ver b]; omega) (fun q => by have := R.ver b; omega) rfl rfl rfl (Nat.le_refl _) (fun _ _ _ => rfl) (fun g cap q => by cases q) (fun d _ _ h3 h4 _ _ => .none true e _ h4 h0 h3)
  have hxn := hx ▸ R.ev ha x
  generalize hu : a.eval x = u at hxn
  cases hxn
  have hown : RelV d (.own b ((σ.m b).ver + 1) 0) (a.eval x) := by
    rw [hu]
    exact .own _ _ _ _ rfl (by rw [h5]; exact Nat.le_refl _) (fun _ => .inl ⟨h3, rfl, rfl⟩)
  have hlk : look (updm σ.m b ⟨(σ.m b).ver + 1, some (.rows true e sz [])⟩) b ((σ.m b).ver + 1) = some (.rows true e sz []) := by simp [look, updm]
  have := did_append (P := P) h7 ha hd hargs hts hop ht hz hown hlk hsz hzl (Nat.zero_le _) (SrcG.le h6 h1 hy) hnew (by omega) (by simpa using hby) lk
  obtain ⟨u, w', d2, g1, g2, g3, g4, g5⟩ := this
  refine ⟨u, w', d2, by rw [← h1]; exact g1, g2, g3.trans h2, h6.trans g4, ?_⟩
  have e1 : (({ σ with m := updm σ.m b ⟨(σ.m b).ver + 1, some (.rows true e sz [])⟩ } : St).app o.dst ⟨.own b ((σ.m b).ver + 1 + 1) (0 + new.length), lk, [(b, ⟨(σ.m b).ver + 1 + 1, some (.rows true e sz (([] : List (List PV)).take 0 ++ new))⟩)]⟩) = σ.app o.dst ⟨.own b ((σ.m b).ver + 2) new.length, lk, [(b, ⟨(σ.m b).ver + 2, some (.rows true e sz new)⟩)]⟩ := by
    simp only [St.app, List.foldl_cons, List.foldl_nil, updm_updm, Nat.zero_add, List.take_nil, List.nil_append]
  rw [← e1]
  exact g5
theorem byteRows_all (s : ByteArray) : ((byteRows s).all fun r => decide (r.length = 1) && r.all PV.sf) = true := by
  rw [List.all_eq_true]
  intro r hr
  obtain ⟨b, _, rfl⟩ := List.mem_map.1 hr
  rfl
theorem SrcG.of_str {t t' e : Nat} {s : ByteArray} {u : Value} (h : RelV c (.str s) u) (ht : elP P t = some e) (hu : strP P t' = true) : SrcG P c.w c t t' e 1 u (byteRows s) := by
  cases h
  exact SrcG.str (el_under ht) (str_under hu)
end
end Go.Proofs.Ev
namespace Go.Proofs.Ev
open Go Go.RowKit
set_option linter.unusedVariables false
set_option linter.unusedSimpArgs false
section
variable {P : Program} {w0 : World} {foot omut : Nat → Prop} {σ : St} {tmps : Array Value} {c : Cx}
theorem did_max (R : Rel w0 foot omut σ tmps c) {a : Act} (ha : a.tmps = tmps) {o : Oper} (hd : ∀ d, o.dst = some d → d < tmps.size) {x y : Operand} {args : Array Operand} {ts : Array Nat} (hargs : args.toList = [x, y]) (hop : o.op = .call { callee := .builtin .max, args := args, argTypes := ts }) {k j : IntKind} {m n : Int} (hx : σ.ev x = .int k m) (hy : σ.ev y = .int j n) :
    Did P w0 foot omut σ c o a ⟨.int k (if n > m then n else m), [], []⟩ := by
  obtain rfl : args = #[x, y] := by rw [← Array.toArray_toList (xs := args), hargs]
  have h1 := hx ▸ R.ev ha x
  have h2 := hy ▸ R.ev ha y
  generalize hu : a.eval x = u at h1
  generalize hv : a.eval y = v at h2
  cases h1
  cases h2
  exact Did.val R ha hd (.int _ _) (by simp [execOp, hop, resolve, invoke, builtin, hu, hv, Builtin.max_, Builtin.max2])
theorem did_min (R : Rel w0 foot omut σ tmps c) {a : Act} (ha : a.tmps = tmps) {o : Oper} (hd : ∀ d, o.dst = some d → d < tmps.size) {x y : Operand} {args : Array Operand} {ts : Array Nat} (hargs : args.toList = [x, y]) (hop : o.op = .call { callee := .builtin .min, args := args, argTypes := ts }) {k j : IntKind} {m n : Int} (hx : σ.ev x = .int k m) (hy : σ.ev y = .int j n) :
    Did P w0 foot omut σ c o a ⟨.int k (if n < m then n else m), [], []⟩ := by
  obtain rfl : args = #[x, y] := by rw [← Array.toArray_toList (xs := args), hargs]
  have h1 := hx ▸ R.ev ha x
  have h2 := hy ▸ R.ev ha y
  generalize hu : a.eval x = u at h1
  generalize hv : a.eval y = v at h2
  cases h1
  cases h2
  exact Did.val R ha hd (.int _ _) (by simp [execOp, hop, resolve, invoke, builtin, hu, hv, Builtin.min_, Builtin.min2])
/-- Cells that stand for values, one by one. -/
def RelL (c : Cx) (xs : List PV) (us : List Value) : Prop := xs.length = us.length ∧ ∀ (i : Nat) (x : PV) (u : Value), xs[i]? = some x → us[i]? = some u → RelV c x u
theorem RelL.zero (zs : List Value) : RelL c (zs.map pvc) zs := ⟨by simp, fun i x u hx hu => by
  rw [List.getElem?_map, hu] at hx
  cases hx
  exact RelV.toPvc c u⟩
theorem cells_relL {x : PV} {u : Value} (h : RelV c x u) (h1 : x.cells.all PV.one = true) : RelL c x.cells u.cells.toList := by
  obtain ⟨c1, c2, c3⟩ := cells_rel h h1
  refine ⟨by rw [Array.length_toList]; exact c1.symm, fun i y z hy hz => ?_⟩
  obtain ⟨z', p, q⟩ := c2 i y hy
  have : z' = z := by
    rw [Array.getElem?_toList] at hz
    rw [hz] at p
    exact (Option.some.inj p).symm
  exact this ▸ q
theorem fold_set (off : Nat) : ∀ (l : List Value) (n : Nat) (cs : Array Value), ((l.zipIdx n).foldl (fun cs p => cs.setIfInBounds (off + p.2) p.1) cs).size = cs.size ∧ ∀ k, ((l.zipIdx n).foldl (fun cs p => cs.setIfInBounds (off + p.2) p.1) cs)[k]? = if off + n ≤ k ∧ k < off + n + l.length ∧ k < cs.size then l[k - (off + n)]? else cs[k]?
  | [], n, cs => ⟨rfl, fun k => by rw [if_neg (by simp only [List.length_nil]; omega)]; rfl⟩
  | v :: l, n, cs => by
    obtain ⟨i1, i2⟩ := fold_set off l (n + 1) (cs.setIfInBounds (off + n) v)
    simp only [List.zipIdx_cons, List.foldl_cons, List.length_cons]
    refine ⟨by rw [i1]; simp, fun k => ?_⟩
    rw [i2 k]
    simp only [Array.size_setIfInBounds]
    by_cases hk : off + n = k
    · rw [if_neg (by omega)]
      by_cases hs : k < cs.size
      · rw [if_pos (by omega)]
        subst hk
        simp [hs]
      · rw [if_neg (by omega)]
        rw [Array.getElem?_eq_none (by simp; omega), Array.getElem?_eq_none (by omega)]
    · by_cases h2 : off + (n + 1) ≤ k ∧ k < off + (n + 1) + l.length ∧ k < cs.size
      · rw [if_pos h2, if_pos (by omega)]
        have : k - (off + n) = (k - (off + (n + 1))) + 1 := by omega
        rw [this, List.getElem?_cons_succ]
      · rw [if_neg h2, if_neg (by omega), Array.getElem?_setIfInBounds_ne hk]
/-- One part filled in. -/
theorem fill_one {cs : List PV} {us : Array Value} (h : RelL c cs us.toList) {xs : List PV} {v : Array Value} (hv : RelL c xs v.toList) {off : Nat} (ho : off + xs.length ≤ cs.length) :
    RelL c (splice cs off xs) (v.zipIdx.foldl (fun cs (p : Value × Nat) => cs.setIfInBounds (off + p.2) p.1) us).toList := by
  obtain ⟨f1, f2⟩ := fold_set off v.toList 0 us
  have e : v.zipIdx.foldl (fun cs (p : Value × Nat) => cs.setIfInBounds (off + p.2) p.1) us = (v.toList.zipIdx 0).foldl (fun cs p => cs.setIfInBounds (off + p.2) p.1) us := by
    rw [← Array.foldl_toList]
    simp
  rw [e]
  have hl : cs.length = us.size := by simpa using h.1
  have hl2 : xs.length = v.size := by simpa using hv.1
  refine ⟨by rw [splice_len _ _ _ ho, hl, ← f1]; simp, fun i x u hx hu => ?_⟩
  rw [splice_get _ _ _ ho] at hx
  rw [Array.getElem?_toList, f2] at hu
  by_cases h1 : i < off
  · rw [if_pos h1] at hx
    rw [if_neg (by omega)] at hu
    exact h.2 i x u hx (by simpa using hu)
  · rw [if_neg h1] at hx
    by_cases h2 : i < off + xs.length
    · rw [if_pos h2] at hx
      rw [if_pos (by simp only [Array.length_toList]; omega)] at hu
      exact hv.2 _ x u hx (by simpa using hu)
    · rw [if_neg h2] at hx
      rw [if_neg (by simp only [Array.length_toList]; omega)] at hu
      exact h.2 i x u hx (by simpa using hu)
theorem did_build (R : Rel w0 foot omut σ tmps c) {a : Act} (ha : a.tmps = tmps) {o : Oper} (hd : ∀ d, o.dst = some d → d < tmps.size) {t : Nat} {ps : Array (Nat × Operand)} (hop : o.op = .build t ps) {zs : List Value} (hz : zeroP P t = some zs) {fs : Array Field} (hs : P.underlying t = some (.struct fs)) (hk : ∀ f ∈ fs, knownP P f.type = true) {cs : List PV} (hf : fillP P t σ.ev ps.toList (zs.map pvc) = some cs) :
    Did P w0 foot omut σ c o a ⟨.agg cs, [], []⟩ := by
  obtain ⟨i, z, hi, hiz, hzs⟩ := zero_info hz
  have hplaces : (fs.mapM fun f => (do pure (f.offset, ← sizeOf f.type) : Sem (Nat × Nat))).run P c.w = .ok (fs.map fun f => (f.offset, szP P f.type)) c.w := by
    rw [Array.mapM_eq_mapM_toList]
    have key : ∀ l : List Field, (∀ f ∈ l, knownP P f.type = true) → (l.mapM fun f => (do pure (f.offset, ← sizeOf f.type) : Sem (Nat × Nat))).run P c.w = .ok (l.map fun f => (f.offset, szP P f.type)) c.w := by
      intro l
      induction l with
      | nil => intro _; rfl
      | cons f l ih =>
        intro hl
        have h1 := hl f (by simp)
        unfold knownP at h1
        rw [Bool.and_eq_true] at h1
        obtain ⟨inf, hinf⟩ := Option.isSome_iff_exists.1 h1.1
        have hsz : szP P f.type = inf.size := by unfold szP; rw [hinf]; rfl
        have hso : (sizeOf f.type).run P c.w = .ok inf.size c.w := by simp [sizeOf, typeInfo, hinf]
        rw [List.mapM_cons]
        simp only [Sem.run_bind, hso, Sem.run_pure, Result.andThen_ok, List.map_cons, hsz]
        have ih' := ih (fun g hg => hl g (by simp [hg]))
        rw [ih']
        rfl
    simp only [Sem.run_map, key fs.toList (fun f hf => hk f (by simpa using hf)), Result.andThen_ok]
    congr 1
    apply Array.ext'
    simp
  have hfill : ∀ (ps : List (Nat × Operand)) (cs out : List PV) (us : Array Value), RelL c cs us.toList → fillP P t σ.ev ps cs = some out → ∃ vs, Instr.fill ((fs.map fun f => (f.offset, szP P f.type))[·]?) us (ps.map fun p => (p.1, a.eval p.2)) = some vs ∧ RelL c out vs.toList := by
    intro ps
    induction ps with
    | nil => intro cs out us h hq; cases hq; exact ⟨us, rfl, h⟩
    | cons p ps ih =>
      obtain ⟨j, x⟩ := p
      intro cs out us h hq
      simp only [fillP] at hq
      split at hq
      · rename_i off ft hoff
        split at hq
        · rename_i hc
          obtain ⟨c1, c2, c3, c4⟩ := hc
          obtain ⟨fs', y, u1, u2, u3, u4⟩ := off_under hoff
          rw [hs] at u1
          cases u1
          have hr := cells_relL (R.ev ha x) c4
          have hn : (σ.ev x).cells.length = (a.eval x).cells.size := by simpa using hr.1
          have hl : cs.length = us.size := by simpa using h.1
          obtain ⟨vs, v1, v2⟩ := ih _ out _ (fill_one h hr c2) hq
          refine ⟨vs, ?_, v2⟩
          simp only [List.map_cons, Instr.fill]
          have hp : (fs.map fun f => (f.offset, szP P f.type))[j]? = some (off, szP P ft) := by
            rw [Array.getElem?_map, u2]
            simp [u3, u4]
          rw [hp]
          simp only
          rw [if_neg (by simp; omega)]
          exact v1
        · cases hq
      · cases hq
  obtain ⟨vs, v1, v2⟩ := hfill ps.toList _ cs z.cells (by rw [hzs]; exact RelL.zero zs) hf
  refine Did.val R ha hd (u := .agg vs) (by have := RelV.agg (c := c) cs vs.toList v2.1 v2.2; simpa using this) ?_
  have hpe : (Array.map (fun x => match x with | (i, x) => (i, a.eval x)) ps).toList = ps.toList.map fun p => (p.1, a.eval p.2) := by simp
  simp only [execOp, hop, Instr.build, Sem.run_bind, zeroValue, typeInfo, program, Sem.run, hi, hiz, Sem.run_pure, Result.andThen_ok, run_underlying hs, hplaces, hpe, v1]
end
end Go.Proofs.Ev
namespace Go.Proofs.Ev
open Go Go.RowKit
set_option linter.unusedVariables false
set_option linter.unusedSimpArgs false
section
variable {P : Program} {w0 : World} {foot omut : Nat → Prop} {σ : St} {tmps : Array Value} {c : Cx}
def RelR (c : Cx) (sz : Nat) (rs : List (List PV)) (us : Array Value) : Prop := us.size = rs.length * sz ∧ (∀ (i : Nat) (row : List PV), rs[i]? = some row → row.length = sz) ∧ ∀ (i : Nat) (row : List PV) (j : Nat) (x : PV), rs[i]? = some row → row[j]? = some x → ∃ u, us[i * sz + j]? = some u ∧ RelV c x u
theorem fill_row {sz : Nat} {rs : List (List PV)} {us : Array Value} (h : RelR c sz rs us) {xs : List PV} {v : Array Value} (hv : RelL c xs v.toList) (hx : xs.length = sz) {i : Nat} (hi : i < rs.length) :
    RelR c sz (rs.set i xs) (v.zipIdx.foldl (fun cs (p : Value × Nat) => cs.setIfInBounds (i * sz + p.2) p.1) us) := by
  obtain ⟨f1, f2⟩ := fold_set (i * sz) v.toList 0 us
  have e : v.zipIdx.foldl (fun cs (p : Value × Nat) => cs.setIfInBounds (i * sz + p.2) p.1) us = (v.toList.zipIdx 0).foldl (fun cs p => cs.setIfInBounds (i * sz + p.2) p.1) us := by
    rw [← Array.foldl_toList]
    simp
  rw [e]
  have hl2 : xs.length = v.size := by simpa using hv.1
  obtain ⟨h1, h2, h3⟩ := h
  refine ⟨by rw [f1, h1, List.length_set], fun j row hj => ?_, fun j row k x hj hk => ?_⟩
  · by_cases q : i = j
    · subst q
      rw [List.getElem?_set_self hi] at hj
      cases hj; exact hx
    · rw [List.getElem?_set_ne q] at hj
      exact h2 j row hj
  · rw [f2]
    simp only [Array.length_toList, Nat.add_zero]
    by_cases q : i = j
    · subst q
      rw [List.getElem?_set_self hi] at hj
      cases hj
      have hks : k < sz := by rw [← hx]; exact (List.getElem?_eq_some_iff.1 hk).1
      have hfit := @row_fit i sz (k + 1) rs.length hi (by omega)
      rw [if_pos (by omega)]
      have e1 : i * sz + k - i * sz = k := by omega
      rw [e1]
      have hkv : k < v.toList.length := by simp; omega
      exact ⟨v.toList[k], List.getElem?_eq_getElem hkv, hv.2 k x _ hk (List.getElem?_eq_getElem hkv)⟩
    · rw [List.getElem?_set_ne q] at hj
      have hks : k < sz := by rw [← h2 j row hj]; exact (List.getElem?_eq_some_iff.1 hk).1
      rw [if_neg (by
        rintro ⟨a1, a2, a3⟩
        obtain ⟨r, hr⟩ : ∃ r, j * sz + k = i * sz + r := ⟨j * sz + k - i * sz, by omega⟩
        have := row_in (i := j) (k := k) (j := i) (q := r) hks hr (by omega)
        exact q this.1.symm)]
      exact h3 j row k x hj hk
theorem did_buildSlice (R : Rel w0 foot omut σ tmps c) {a : Act} (ha : a.tmps = tmps) {o : Oper} (hd : ∀ d, o.dst = some d → d < tmps.size) {t n e : Nat} {ps : Array (Nat × Operand)} (hop : o.op = .buildSlice t n ps) (b : Id) (ht : elP P t = some e) {zs : List Value} (hz : zeroP P e = some zs) (h0 : 0 < zs.length) (hsz : szP P e = zs.length) (hn : n * zs.length ≤ 16777216)
    {rs : List (List PV)} (hf : fillR zs.length σ.ev ps.toList (List.replicate n (zs.map pvc)) = some rs) (h1 : (rs.all fun r => r.all PV.sf) = true) :
    Did P w0 foot omut σ c o a ⟨.own b ((σ.m b).ver + 1) n, [], [mkB σ.m b (.rows true e zs.length rs)]⟩ := by
  obtain ⟨i, z, hi, hiz, hzs⟩ := zero_info hz
  have his : i.size = zs.length := by unfold szP at hsz; rw [hi] at hsz; simpa using hsz
  have hzl : z.cells.size = zs.length := by rw [← hzs]; simp
  have hfill : ∀ (ps : List (Nat × Operand)) (cs out : List (List PV)) (us : Array Value), RelR c zs.length cs us → fillR zs.length σ.ev ps cs = some out → ∃ vs, Instr.fill (fun i => some (i * zs.length, zs.length)) us (ps.map fun p => (p.1, a.eval p.2)) = some vs ∧ RelR c zs.length out vs ∧ out.length = cs.length := by
    intro ps
    induction ps with
    | nil => intro cs out us h hq; cases hq; exact ⟨us, rfl, h, rfl⟩
    | cons p ps ih =>
      obtain ⟨j, x⟩ := p
      intro cs out us h hq
      simp only [fillR] at hq
      split at hq
      · rename_i hc
        obtain ⟨c1, c2, c3⟩ := hc
        have hr := cells_relL (R.ev ha x) c3
        have hn' : (σ.ev x).cells.length = (a.eval x).cells.size := by simpa using hr.1
        obtain ⟨vs, v1, v2, v3⟩ := ih _ out _ (fill_row h hr c1 c2) hq
        refine ⟨vs, ?_, v2, by rw [v3, List.length_set]⟩
        simp only [List.map_cons, Instr.fill]
        have hfit := @row_fit j zs.length zs.length cs.length c2 (Nat.le_refl _)
        have hus := h.1
        rw [if_neg (by simp; omega)]
        exact v1
      · cases hq
  have hstart : RelR c zs.length (List.replicate n (zs.map pvc)) ((Array.range (n * zs.length)).map (z.cells[· % z.cells.size]!)) := by
    refine ⟨by simp, fun j row hj => ?_, fun j row k x hj hk => ?_⟩
    · rw [List.getElem?_replicate] at hj
      split at hj
      · cases hj; simp
      · cases hj
    · rw [List.getElem?_replicate] at hj
      split at hj
      · rename_i hjn
        cases hj
        rw [List.getElem?_map] at hk
        cases hq : zs[k]? with
        | none => rw [hq] at hk; cases hk
        | some q =>
          rw [hq] at hk
          cases hk
          have hks : k < zs.length := (List.getElem?_eq_some_iff.1 hq).1
          have hfit := @row_fit j zs.length (k + 1) n hjn (by omega)
          have hlt : j * zs.length + k < n * zs.length := by omega
          have hmod : (j * zs.length + k) % zs.length = k := by rw [Nat.add_comm, Nat.mul_comm, Nat.add_mul_mod_self_left, Nat.mod_eq_of_lt hks]
          refine ⟨q, ?_, RelV.toPvc c q⟩
          have hkz : z.cells[k]? = some q := by rw [← hzs] at hq; simpa using hq
          have hkl : k < z.cells.size := by omega
          have hlt' : j * zs.length + k < ((Array.range (n * zs.length)).map (z.cells[· % z.cells.size]!)).size := by simpa using hlt
          rw [Array.getElem?_eq_getElem hlt', Array.getElem_map, Array.getElem_range, hzl, hmod]
          congr 1
          rw [Array.getElem?_eq_getElem hkl] at hkz
          simp [hkl, Option.some.inj hkz]
      · cases hj
  obtain ⟨vs, v1, v2, v3⟩ := hfill ps.toList _ rs _ hstart hf
  rw [List.length_replicate] at v3
  have hfin : RelR c zs.length rs vs := v2
  have hpe : (Array.map (fun x => match x with | (i, x) => (i, a.eval x)) ps).toList = ps.toList.map fun p => (p.1, a.eval p.2) := by simp
  have hmx : n ≤ maxLen := by
    have : n ≤ n * zs.length := Nat.le_mul_of_pos_right n h0
    simp only [maxLen]; omega
  refine Did.new R ha hd b _ (.slice (some ⟨c.w.heap.size, 0, none⟩) n n) (.cells vs e) n zs.length ?_ ?_ ?_
  · have hun := el_under ht
    have hgt : ¬ (16777216 < n * zs.length) := by omega
    by_cases hn0 : n = 0
    · subst hn0
      have hrs : rs = [] := List.eq_nil_of_length_eq_zero v3
      have hps : ps.toList = [] := by
        cases hq : ps.toList with
        | nil => rfl
        | cons p l =>
          obtain ⟨j, x⟩ := p
          rw [hq] at hf
          simp [fillR] at hf
      have hvs : vs = #[] := by
        have := hfin.1
        rw [hrs] at this
        exact Array.eq_empty_of_size_eq_zero (by simpa using this)
      subst hvs
      simp [execOp, hop, Instr.buildSlice, run_underlying hun, sizeOf, typeInfo, hi, his, hpe, hps, Instr.fill, newRow]
      congr 2
      exact Array.eq_empty_of_size_eq_zero (by simp)
    · have hne : ¬ (n * zs.length = 0) := by
        intro q
        rcases Nat.mul_eq_zero.1 q with q | q <;> omega
      have v1' := v1
      simp only [execOp, hop, Instr.buildSlice, Sem.run_bind, run_underlying hun, Result.andThen_ok]
      have hso : (sizeOf e).run P c.w = .ok zs.length c.w := by simp [sizeOf, typeInfo, hi, his]
      have hzo : (zeroValue e).run P c.w = .ok z c.w := by simp [zeroValue, typeInfo, hi, hiz]
      rw [hso]
      simp only [Result.andThen_ok]
      rw [if_neg (show ¬ n * zs.length > 2 ^ 24 by omega), if_neg hne]
      simp only [Sem.run_bind, hzo, Result.andThen_ok, Sem.run_pure, hpe, v1', newRow, newObj, Sem.run]
      rfl
  · intro d hw hb ha' hs hv hle
    refine .rows true e _ _ c.w.heap.size n vs hs h0 ha' (.inl (by rw [hb]; exact R.bs)) (by rw [hw]; exact heap_alloc_new _ _) (by omega) hmx ⟨Nat.le_of_eq (Eq.symm (by rw [hfin.1, v3])), fun h => by cases h⟩ hfin.2.1 ?_ (fun i row j x p q => by obtain ⟨u, u1, u2⟩ := hfin.2.2 i row j x p q; exact ⟨u, u1, u2.le hle⟩)
    intro i row j x p q
    have hs := List.all_eq_true.1 (List.all_eq_true.1 h1 row (List.mem_of_getElem? p)) x (List.mem_of_getElem? q)
    exact ⟨PV.one_of_sf hs, fun _ => hs⟩
  · exact fun d ha' hs hv => .own _ _ _ _ rfl (by rw [hv]; exact Nat.le_refl _) (fun _ => .inr ⟨_, _, ha', Nat.le_refl _, rfl⟩)
theorem did_make (R : Rel w0 foot omut σ tmps c) {a : Act} (ha : a.tmps = tmps) {o : Oper} (hd : ∀ d, o.dst = some d → d < tmps.size) {t e : Nat} {x y : Operand} (hop : o.op = .makeSlice t x y) (b : Id) (ht : elP P t = some e) {zs : List Value} (hz : zeroP P e = some zs) {n : Int} (hx : intOfP (σ.ev x) = some n) (hy : intOfP (σ.ev y) = some n) (hn : 0 ≤ n) (h0 : 0 < zs.length) (hsz : szP P e = zs.length)
    (hzf : zs.all (fun z => (pvc z).sf) = true) (hby : n * byP P e ≤ 140737488355328) (h63 : n ≤ 9223372036854775807) : Did P w0 foot omut σ c o a ⟨.own b ((σ.m b).ver + 1) n.toNat, [], [mkB σ.m b (.rows true e zs.length (List.replicate n.toNat (zs.map pvc)))]⟩ := by
  obtain ⟨kx, ex⟩ := int_of (R.ev ha x) hx
  obtain ⟨ky, ey⟩ := int_of (R.ev ha y) hy
  obtain ⟨inf, hinf, hisz⟩ := size_info (P := P) (t := e) hsz h0
  obtain ⟨inf', z, hi', hz1, hz2⟩ := zero_info hz
  rw [hinf] at hi'
  cases hi'
  have hbytes : byP P e = inf.bytes := by unfold byP; rw [hinf]; rfl
  have hzs : z.cells.size = zs.length := by rw [← hz2]; simp
  have hr := run_make (P := P) c.w t e inf z (el_under ht) hinf hz1 kx ky n n hn (Int.le_refl _) (by rw [← hbytes, Int.mul_comm]; omega) h63
  refine Did.new R ha hd b _ (.slice (some ⟨c.w.heap.size, 0, none⟩) n.toNat n.toNat) (.cells (madeCells z.cells (n.toNat * inf.size)) e) n.toNat zs.length ?_ ?_ ?_
  · simp only [execOp, hop, ex, ey]
    simp only [Sem.run_bind, hr]
    rfl
  · intro d hw hb hat hs hv hle
    by_cases hn0 : n.toNat = 0 ∧ False
    · exact hn0.2.elim
    refine .rows true e _ _ c.w.heap.size n.toNat (madeCells z.cells (n.toNat * inf.size)) hs h0 hat (.inl (by rw [hb]; exact R.bs)) (by rw [hw]; exact heap_alloc_new _ _) (by simp) (by simp only [maxLen]; omega) ⟨Nat.le_of_eq (Eq.symm (by rw [size_madeCells, hisz])), fun h => by cases h⟩ ?_ ?_ ?_
    · intro i row hi
      have := List.mem_of_getElem? hi
      rw [List.mem_replicate] at this
      rw [this.2]; simp
    · intro i row j x hi hx
      have := List.mem_of_getElem? hi
      rw [List.mem_replicate] at this
      rw [this.2] at hx
      have hxm := List.mem_of_getElem? hx
      obtain ⟨q, q1, rfl⟩ := List.mem_map.1 hxm
      have hf := List.all_eq_true.1 hzf q q1
      exact ⟨PV.one_of_sf hf, fun _ => hf⟩
    · intro i row j x hi hx
      have hil : i < n.toNat := by have := (List.getElem?_eq_some_iff.1 hi).1; simpa using this
      have := List.mem_of_getElem? hi
      rw [List.mem_replicate] at this
      rw [this.2] at hx
      rw [List.getElem?_map] at hx
      cases hq : zs[j]? with
      | none => rw [hq] at hx; cases hx
      | some q =>
        rw [hq] at hx
        cases hx
        have hj : j < zs.length := (List.getElem?_eq_some_iff.1 hq).1
        refine ⟨q, ?_, RelV.toPvc d q⟩
        have hk : i * zs.length + j < n.toNat * inf.size := by
          rw [hisz]
          have := @row_fit i zs.length (j + 1) n.toNat hil (by omega)
          omega
        have hmod : (i * zs.length + j) % z.cells.size = j := by
          rw [hzs, Nat.add_comm, Nat.mul_comm, Nat.add_mul_mod_self_left, Nat.mod_eq_of_lt hj]
        have hzq : z.cells[j]? = some q := by rw [← Array.getElem?_toList, hz2]; exact hq
        simp only [madeCells, Array.getElem?_map, Array.getElem?_range, hk, if_true, Option.map_some, hmod]
        rw [Array.getElem!_eq_getD, Array.getD_eq_getD_getElem?, hzq]
        rfl
  · intro d hat hs hv
    exact .own _ _ _ _ rfl (by rw [hv]; exact Nat.le_refl _) (fun _ => .inr ⟨_, _, hat, Nat.le_refl _, rfl⟩)
theorem did_cap (R : Rel w0 foot omut σ tmps c) {a : Act} (ha : a.tmps = tmps) {o : Oper} (hd : ∀ d, o.dst = some d → d < tmps.size) {t e : Nat} {x : Operand} {args : Array Operand} {ts : Array Nat} (hargs : args.toList = [x]) (hts : ts.toList = [t]) (hop : o.op = .call { callee := .builtin .cap, args := args, argTypes := ts }) (hx : σ.ev x = .nils) (ht : elP P t = some e) : Did P w0 foot omut σ c o a ⟨.int .i64 0, [], []⟩ := by
  obtain rfl : args = #[x] := by rw [← Array.toArray_toList (xs := args), hargs]
  obtain rfl : ts = #[t] := by rw [← Array.toArray_toList (xs := ts), hts]
  have hxn := hx ▸ R.ev ha x
  generalize hu : a.eval x = u at hxn
  cases hxn
  refine Did.val R ha hd (u := goInt 0) (.int _ _) ?_
  simp [execOp, hop, resolve, invoke, hu, Builtin.cap_, run_underlying (el_under ht), builtin]
end
end Go.Proofs.Ev
namespace Go.Proofs.Ev
open Go Go.RowKit
set_option linter.unusedVariables false
set_option linter.unusedSimpArgs false
section
variable {P : Program} {w0 : World} {foot omut : Nat → Prop} {σ : St} {tmps : Array Value} {c : Cx}
theorem map_some {α β : Type} {f : α → β} {x : Option α} {y : β} (h : x.map f = some y) : ∃ z, x = some z ∧ y = f z := by
  cases x with
  | none => cases h
  | some z => exact ⟨z, rfl, (Option.some.inj h).symm⟩
theorem bind_some {α β : Type} {f : α → Option β} {x : Option α} {y : β} (h : x.bind f = some y) : ∃ z, x = some z ∧ f z = some y := by
  cases x with
  | none => cases h
  | some z => exact ⟨z, rfl, h⟩
theorem op_sound (R : Rel w0 foot omut σ tmps c) {a : Act} (ha : a.tmps = tmps) {o : Oper} (hd : ∀ d, o.dst = some d → d < tmps.size) {e : Eff} (h : opF P σ o = some e) : Did P w0 foot omut σ c o a e := by
  unfold opF at h
  dsimp only at h
  split at h
  -- move, assign of nil
  · rename_i hop
    split at h
    · split at h
      · rename_i h0; cases h; exact did_const_row R ha hd (.inl hop) _ _ h0
      · cases h
    · cases h
  · rename_i hop
    split at h
    · split at h
      · rename_i h0; cases h; exact did_const_row R ha hd (.inr hop) _ _ h0
      · cases h
    · cases h
  · rename_i hop; cases h; exact did_move R ha hd (.inl hop)
  · rename_i hop; cases h; exact did_move R ha hd (.inr hop)
  -- pick
  · rename_i hop
    obtain ⟨t, ht, rfl⟩ := map_some h
    exact did_pick R ha hd hop ht
  -- alloc
  · rename_i hop
    split at h
    · rename_i hz
      split at h
      · rename_i hc; cases h; exact did_alloc R ha hd hop _ hz hc.1 hc.2.2
      · cases h
    · cases h
  -- box
  · rename_i hop
    split at h
    · rename_i hc; cases h; exact did_box R ha hd hop _ hc.1 hc.2
    · cases h
  -- build
  · rename_i t ps hop
    split at h
    · rename_i hst
      split at h
      · rename_i hz
        obtain ⟨cs, hcs, rfl⟩ := map_some h
        unfold structP at hst
        split at hst
        · rename_i fs hu
          exact did_build R ha hd hop hz hu (fun f hf => by have := Array.all_eq_true'.1 hst f hf; simpa using this) hcs
        · cases hst
      · cases h
    · cases h
  -- buildSlice
  · rename_i hop
    split at h
    · rename_i he
      split at h
      · rename_i hz
        split at h
        · rename_i hc
          obtain ⟨rs, hrs, hh⟩ := bind_some h
          split at hh
          · rename_i h1; cases hh; exact did_buildSlice R ha hd hop _ he hz hc.1 hc.2.1 hc.2.2 hrs h1
          · cases hh
        · cases h
      · cases h
    · cases h
  -- load
  · rename_i hop
    split at h
    · rename_i hk
      split at h
      · rename_i hx
        split at h
        · rename_i hl
          obtain ⟨row, hrow, hh⟩ := bind_some h
          obtain ⟨y, hy, rfl⟩ := map_some hh
          exact did_load R ha hd hop hk hx hl hrow hy _
        · cases h
      · rename_i hx
        obtain ⟨y, hy, rfl⟩ := map_some h
        exact did_loadR R ha hd hop hk hx hy _
      · cases h
    · cases h
  -- store
  · rename_i hop
    split at h
    · rename_i hk
      split at h
      · rename_i hx
        split at h
        · rename_i hl
          obtain ⟨row, hrow, hh⟩ := bind_some h
          split at hh
          · rename_i hc; cases hh; exact did_store R ha hd hop hk hx hl hrow hc.1 hc.2.1 hc.2.2.1 hc.2.2.2 _
          · cases hh
        · cases h
      · cases h
    · cases h
  -- nilCheck
  · rename_i hop
    split at h
    · rename_i hx
      split at h
      · rename_i hl
        split at h
        · rename_i hi; cases h; exact did_nilCheck R ha hd hop hx (.inl ⟨_, _, _, _, _, _, _, _, rfl, hl, hi⟩) _
        · cases h
      · cases h
    · rename_i hx; cases h; exact did_nilCheck R ha hd hop hx (.inr ⟨_, _, rfl⟩) _
    · cases h
  -- binOp
  · rename_i hop
    obtain ⟨r, hr, rfl⟩ := map_some h
    exact did_binOp R ha hd hop hr
  -- not, neg
  · rename_i hop
    obtain ⟨t, ht, rfl⟩ := map_some h
    exact did_not R ha hd hop ht
  · rename_i hop
    split at h
    · rename_i hx; cases h; exact did_neg R ha hd hop hx
    · cases h
  -- convert
  · rename_i hop
    split at h
    · rename_i hx
      split at h
      · rename_i hk
        split at h
        · rename_i hi; cases h; exact did_convII R ha hd hop hx hk hi
        · split at h
          · rename_i hs; cases h; exact did_convIS R ha hd hop hx hk hs
          · cases h
      · cases h
    · rename_i hx
      split at h
      · rename_i hk; cases h; exact did_convSS R ha hd hop hx hk.1 hk.2
      · cases h
    · cases h
  -- makeFunc
  · rename_i hop
    split at h
    · rename_i hf
      cases h
      subst hf
      exact did_makeFunc R ha hd hop
    · cases h
  -- slice
  · rename_i t x lo hi hop
    split at h
    · rename_i hc
      obtain ⟨l, hl, h⟩ := bind_some h
      obtain ⟨hh, hhi, h⟩ := bind_some h
      obtain ⟨y, hy, rfl⟩ := map_some h
      cases hx : σ.ev x with
      | str s =>
        rw [hx] at hc hy
        exact did_sliceS R ha hd hop hx (by simpa [sliceOk, isStr] using hc) hl hhi hy
      | ro rows =>
        rw [hx] at hc hy
        simp only [sliceOk, isStr, Bool.false_eq_true, if_false] at hc
        split at hc
        · rename_i he
          simp only [Bool.and_eq_true, decide_eq_true_eq] at hc
          exact did_sliceR R ha hd hop hx he hc.1.1 hc.1.2 hl hhi hy
        · cases hc
      | own b v n =>
        rw [hx] at hc hy
        simp only [sliceOk, isStr, Bool.false_eq_true, if_false] at hc
        split at hc
        · rename_i he
          simp only [Bool.and_eq_true, decide_eq_true_eq] at hc
          have ho := hc.2
          simp only [ownLive] at ho
          split at ho
          · rename_i hlk
            exact did_sliceO R ha hd hop hx he hc.1.1 hlk hl hhi hy _
          · cases ho
        · cases hc
      | nils =>
        rw [hx] at hc hy
        simp only [sliceOk, isStr, Bool.false_eq_true, if_false] at hc
        split at hc
        · rename_i he
          simp only [Bool.and_eq_true, decide_eq_true_eq] at hc
          exact did_sliceN R ha hd hop hx he hc.1.1 hl hhi hy _
        · cases hc
      | _ => rw [hx] at hy; simp [sliceF] at hy
    · cases h
  -- fieldAddr
  · rename_i hop
    split at h
    · rename_i ho
      split at h
      · cases h
      · rename_i hz
        split at h
        · rename_i hx
          split at h
          · rename_i hl
            split at h
            · rename_i hi; cases h; exact did_fieldAddr R ha hd hop ho hz hx hl hi _
            · cases h
          · cases h
        · rename_i hx; cases h; exact did_fieldAddrR R ha hd hop ho hz hx _
        · cases h
    · cases h
  -- field
  · rename_i hop
    split at h
    · rename_i ho hx
      split at h
      · rename_i hk
        obtain ⟨y, hy, rfl⟩ := map_some h
        exact did_field R ha hd hop ho hk hx hy
      · cases h
    · cases h
  -- indexAddr
  · rename_i hop
    split at h
    · rename_i he hi
      split at h
      · rename_i hx
        split at h
        · rename_i h0
          obtain ⟨row, hrow, hh⟩ := bind_some h
          split at hh
          · rename_i hc; cases hh; exact did_indexR R ha hd hop he hi hx h0 hrow hc.1 hc.2 _
          · cases hh
        · cases h
      · rename_i hx
        split at h
        · rename_i hl
          split at h
          · rename_i hc; cases h; exact did_indexO R ha hd hop he hi hx hl hc.1 hc.2.1 hc.2.2.1 hc.2.2.2 _
          · cases h
        · cases h
      · cases h
    · cases h
  -- index
  · rename_i hop
    split at h
    · rename_i hx hi
      split at h
      · rename_i hc
        obtain ⟨b, hb, rfl⟩ := map_some h
        exact did_indexS R ha hd hop hx hi hc.1 hc.2 hb
      · cases h
    · cases h
  -- range
  · rename_i hop
    split at h
    · rename_i hx
      split at h
      · rename_i hs; cases h; exact did_range R ha hd hop _ hx hs
      · cases h
    · cases h
  -- next
  · rename_i hop
    split at h
    · rename_i hx
      split at h
      · rename_i hl
        split at h
        · rename_i hp; cases h; exact did_next R ha hd hop hx hl hp _
        · rename_i hp; cases h; exact did_nextEnd R ha hd hop hx hl hp _
      · cases h
    · cases h
  -- extract
  · rename_i hop
    split at h
    · rename_i hx
      obtain ⟨y, hy, rfl⟩ := map_some h
      exact did_extract R ha hd hop hx hy
    · cases h
  -- len
  · rename_i hop
    split at h
    · rename_i ha1 ha2
      split at h
      · rename_i hc
        unfold lenOk at hc
        rw [Bool.and_eq_true] at hc
        obtain ⟨n, hn, rfl⟩ := map_some h
        exact did_len R ha hd ha1 ha2 hop hn hc.2 hc.1 _
      · cases h
    · cases h
  -- append
  · rename_i hop
    split at h
    · rename_i ha1 ha2
      split at h
      · rename_i ht
        subst ht
        split at h
        · rename_i he hx
          split at h
          · rename_i hl hz
            split at h
            · rename_i hc
              obtain ⟨rfl, c2, c3, c4, c5, c6⟩ := hc
              split at h
              · rename_i hy
                split at h
                · rename_i hg
                  cases h
                  exact did_append R ha hd ha1 ha2 hop he hz (hx ▸ R.ev ha _) hl c2 c3 c5 ((Src.of_nils (hy ▸ R.ev ha _)).g (el_under he) (by omega)) hg.1 hg.2.1 hg.2.2 _
                · cases h
              · rename_i hy
                split at h
                · rename_i hg
                  cases h
                  exact did_append R ha hd ha1 ha2 hop he hz (hx ▸ R.ev ha _) hl c2 c3 c5 ((Src.of_re (hy ▸ R.ev ha _)).g (el_under he) (by omega)) hg.1 hg.2.1 hg.2.2 _
                · cases h
              · rename_i hy
                split at h
                · rename_i hg
                  cases h
                  exact did_append R ha hd ha1 ha2 hop he hz (hx ▸ R.ev ha _) hl c2 c3 c5 ((Src.ro c4 (hy ▸ R.ev ha _) hg.1).g (el_under he) c4) hg.1 hg.2.1 hg.2.2 _
                · cases h
              · rename_i hy
                split at h
                · rename_i hl'
                  split at h
                  · rename_i hq
                    split at h
                    · rename_i hg
                      cases h
                      exact did_append R ha hd ha1 ha2 hop he hz (hx ▸ R.ev ha _) hl c2 c3 c5 ((Src.own' R (hy ▸ R.ev ha _) hl' hq.1 hg.1 c4).g (el_under he) c4) hg.1 hg.2.1 hg.2.2 _
                    · cases h
                  · cases h
                · cases h
              · cases h
            · cases h
          · cases h
        · rename_i he hx
          split at h
          · rename_i hz
            split at h
            · rename_i hc
              obtain ⟨c1, c2, c3⟩ := hc
              split at h
              · rename_i hy
                split at h
                · rename_i hg
                  cases h
                  exact did_append_nil R ha hd ha1 ha2 hop he hz hx _ rfl c1 c2 ((Src.of_nils (hy ▸ R.ev ha _)).g (el_under he) (by omega)) hg.1 hg.2.1 hg.2.2 _
                · cases h
              · rename_i hy
                split at h
                · rename_i hg
                  cases h
                  exact did_append_nil R ha hd ha1 ha2 hop he hz hx _ rfl c1 c2 ((Src.of_re (hy ▸ R.ev ha _)).g (el_under he) (by omega)) hg.1 hg.2.1 hg.2.2 _
                · cases h
              · rename_i hy
                split at h
                · rename_i hg
                  cases h
                  exact did_append_nil R ha hd ha1 ha2 hop he hz hx _ rfl c1 c2 ((Src.ro c2 (hy ▸ R.ev ha _) hg.1).g (el_under he) c2) hg.1 hg.2.1 hg.2.2 _
                · cases h
              · rename_i hy
                split at h
                · rename_i hl'
                  split at h
                  · rename_i hq
                    split at h
                    · rename_i hg
                      cases h
                      exact did_append_nil R ha hd ha1 ha2 hop he hz hx _ rfl c1 c2 ((Src.own' R (hy ▸ R.ev ha _) hl' hq.1 hg.1 c2).g (el_under he) c2) hg.1 hg.2.1 hg.2.2 _
                    · cases h
                  · cases h
                · cases h
              · cases h
            · cases h
          · cases h
        · cases h
      · split at h
        · rename_i he hx hy
          split at h
          · rename_i hl hz
            split at h
            · rename_i hc
              obtain ⟨rfl, rfl, c3, c4, c5, c6, c7, c8⟩ := hc
              cases h
              have := did_append R ha hd ha1 ha2 hop he hz (hx ▸ R.ev ha _) hl c3.symm c4 c5 (SrcG.of_str (hy ▸ R.ev ha _) he c6) (byteRows_all _) (by rw [byteRows_len]; exact c7) (by rw [byteRows_len]; exact c8)
              rw [byteRows_len] at this
              exact this _
            · cases h
          · cases h
        · rename_i he hx hy
          split at h
          · rename_i hz
            split at h
            · rename_i hc
              obtain ⟨c3, c4, c6, c7, c8⟩ := hc
              cases h
              have := did_append_nil R ha hd ha1 ha2 hop he hz hx (.loc (o.dst.getD 0) 0) c3.symm c4 (by decide) (SrcG.of_str (hy ▸ R.ev ha _) he c6) (byteRows_all _) (by rw [byteRows_len]; exact c7) (by rw [byteRows_len]; exact c8)
              rw [byteRows_len] at this
              exact this _
            · cases h
          · cases h
        · cases h
    · cases h
  -- max, min
  · rename_i hop
    split at h
    · rename_i ha1
      split at h
      · rename_i hx hy; cases h; exact did_max R ha hd ha1 hop hx hy
      · cases h
    · cases h
  · rename_i hop
    split at h
    · rename_i ha1
      split at h
      · rename_i hx hy; cases h; exact did_min R ha hd ha1 hop hx hy
      · cases h
    · cases h
  -- makeSlice
  · rename_i hop
    split at h
    · rename_i he hx hy
      split at h
      · rename_i hz
        split at h
        · rename_i hc
          obtain ⟨rfl, c2, c3, c4, c5, c6, c7⟩ := hc
          cases h
          exact did_make R ha hd hop _ he hz hx hy c2 c3 c4 c5 c6 c7
        · cases h
      · cases h
    · cases h
  -- cap
  · rename_i hop
    split at h
    · rename_i ha1 ha2
      split at h
      · rename_i hx he; cases h; exact did_cap R ha hd ha1 ha2 hop hx he
      · cases h
    · cases h
  · cases h
end
end Go.Proofs.Ev
namespace Go.Proofs.Ev
open Go Go.RowKit
set_option linter.unusedVariables false
set_option linter.unusedSimpArgs false
section
variable {P : Program} {w0 : World} {foot omut : Nat → Prop}
/-- The operation, run for real, comes to what is told of it. -/
def DidW (P : Program) (w0 : World) (foot omut : Nat → Prop) (σ : St) (c : Cx) (o : Oper) (a : Act) (e : Eff) : Prop :=
  ∀ (next : Act → World → Prop) (Q : Exit → Act → World → Prop), (∀ (a' : Act) (d : Cx), d.base = c.base → c.le d → a'.defers = a.defers → a'.tmps.size = a.tmps.size → Rel w0 foot omut (σ.app o.dst e) a'.tmps d → next a' d.w) → o.wp P a c.w next Q
theorem Act.put_size (a : Act) (dst : Option Tmp) (u : Value) : (a.put dst u).tmps.size = a.tmps.size := by
  rw [Act.put_tmps]
  cases dst <;> simp
theorem Act.put_def (a : Act) (dst : Option Tmp) (u : Value) : (a.put dst u).defers = a.defers := by
  unfold Act.put
  cases dst <;> rfl
theorem Did.w {σ : St} {c : Cx} {o : Oper} {a : Act} {e : Eff} (h : Did P w0 foot omut σ c o a e) : DidW P w0 foot omut σ c o a e := by
  intro next Q hn
  obtain ⟨u, w', d, hr, hw, hb, hle, hR⟩ := h
  subst hw
  have hn' := hn (a.put o.dst u) d hb hle (Act.put_def _ _ _) (Act.put_size _ _ _) hR
  rcases hr with hr | ⟨hr, hu⟩
  · unfold Oper.wp
    rw [hr]
    exact hn'
  · unfold Oper.wp
    rw [hr, Oper.upon_skip]
    subst hu
    exact hn'
/-- What an operation gives in a state, told outside (calls) or reckoned. -/
abbrev Steps' := St → Oper → Eff → Prop
/-- What is asked of the tellings: they are true, and hang on nothing but what the operation names. -/
def refs : PV → List Id
  | .ptr b _ _ _ => [b]
  | .own b _ _ => [b]
  | .it b _ => [b]
  | _ => []
def refsC : PV → List Id
  | .fn _ caps => caps.flatMap refs
  | x => refs x
/-- A move of a slot touches no memory. -/
def isMove : Op → Bool
  | .move (.tmp _) => true
  | _ => false
def refsOf (σ : St) (o : Oper) : List Id := if isMove o.op = true then [] else o.op.operands.toList.flatMap fun x => refsC (σ.ev x)
structure Good (P : Program) (w0 : World) (foot omut : Nat → Prop) (N : Nat) (S : Steps') : Prop where
  sound : ∀ (σ : St) (c : Cx) (o : Oper) (a : Act) (e : Eff), Rel w0 foot omut σ a.tmps c → a.tmps.size = N → (∀ d, o.dst = some d → d < N) → S σ o e → DidW P w0 foot omut σ c o a e
  near : ∀ (σ τ : St) (o : Oper) (e : Eff), S σ o e → (∀ x ∈ o.op.operands, τ.ev x = σ.ev x) → (∀ b ∈ refsOf σ o ++ e.wr.map (·.1), τ.m b = σ.m b) → S τ o e
/-- Is the operation wanted, as its guard stands? -/
def wantS (ops : List Oper) (σ : St) (o : Oper) : Option Bool :=
  match o.guard with
  | none => some true
  | some (j, want) => match ((ops[j]?).bind (fun o : Oper => o.dst)).map σ.t with
    | some (.bool b) => some (b == want)
    | some (.tup _) => some false
    | _ => none
def StepG (S : Steps') (ops : List Oper) (σ : St) (o : Oper) (e : Eff) : Prop :=
  (wantS ops σ o = some true ∧ S σ o e) ∨ (wantS ops σ o = some false ∧ e = ⟨.tup [], [], []⟩)
theorem wanted_of {ops : Array Oper} {σ : St} {c : Cx} {tmps : Array Value} (R : Rel w0 foot omut σ tmps c) {o : Oper} {b : Bool} (h : wantS ops.toList σ o = some b) (hd : ∀ (j d : Nat), (ops[j]?).bind (fun o : Oper => o.dst) = some d → d < tmps.size) : Region.wanted o (yielded ops tmps) = b := by
  unfold wantS at h
  unfold Region.wanted
  split at h
  · rename_i hg; rw [hg]; cases h; rfl
  · rename_i j want hg
    rw [hg]
    simp only
    have e0 : ops.toList[j]? = ops[j]? := by simp
    rw [e0] at h
    cases hj : (ops[j]?).bind (fun o : Oper => o.dst) with
    | none => rw [hj] at h; simp at h
    | some d =>
      rw [hj] at h
      simp only [Option.map_some] at h
      have hlt := hd j d hj
      have hr := R.tm d
      split at h
      · rename_i b' hb
        cases h
        have hb' : σ.t d = .bool b' := Option.some.inj hb
        rw [hb'] at hr
        generalize hu : tmps.getD d undef = u at hr
        cases hr
        unfold yielded
        rw [hj]
        have : tmps[d]? = some (.bool b') := by
          rw [Array.getElem?_eq_getElem hlt]
          rw [Array.getD_eq_getD_getElem?, Array.getElem?_eq_getElem hlt] at hu
          simpa using hu
        simp only [Option.bind_some, this]
        cases b' <;> cases want <;> rfl
      · rename_i vs hb
        cases h
        have hb' : σ.t d = .tup vs := Option.some.inj hb
        rw [hb'] at hr
        generalize hu : tmps.getD d undef = u at hr
        cases hr
        unfold yielded
        rw [hj]
        have : ∃ us, tmps[d]? = some (.tuple us) := by
          rw [Array.getElem?_eq_getElem hlt]
          rw [Array.getD_eq_getD_getElem?, Array.getElem?_eq_getElem hlt] at hu
          exact ⟨_, by simpa using hu⟩
        obtain ⟨us, this⟩ := this
        simp only [Option.bind_some, this]
        cases want <;> rfl
      · cases h
/-- One operation of a region, whether it is wanted or not. -/
theorem wpOp_step {N : Nat} {S : Steps'} (hS : Good P w0 foot omut N S) {ops : Array Oper} {Q : Exit → Act → World → Prop} {i : Nat} {o : Oper} (hi : ops[i]? = some o) {σ : St} {c : Cx} {a : Act} (R : Rel w0 foot omut σ a.tmps c) (hN : a.tmps.size = N) (hd : ∀ (j d : Nat), (ops[j]?).bind (fun o : Oper => o.dst) = some d → d < N) {e : Eff} (h : StepG S ops.toList σ o e)
    {K : Act → World → Prop} (hK : ∀ (a' : Act) (d : Cx), d.base = c.base → c.le d → a'.defers = a.defers → a'.tmps.size = N → Rel w0 foot omut (σ.app o.dst e) a'.tmps d → K a' d.w) : wpOp P ops Q i K a c.w := by
  unfold wpOp
  rw [hi]
  simp only
  have hdo : ∀ d, o.dst = some d → d < N := fun d hd' => hd i d (by rw [hi]; exact hd')
  rcases h with ⟨h1, h2⟩ | ⟨h1, h2⟩
  · rw [wanted_of R h1 (fun j d h => by rw [hN]; exact hd j d h), if_pos rfl]
    exact .inl (hS.sound σ c o a e R hN hdo h2 K Q (fun a' d p1 p2 p3 p4 p5 => hK a' d p1 p2 p3 (p4.trans hN) p5))
  · rw [wanted_of R h1 (fun j d h => by rw [hN]; exact hd j d h), if_neg (by decide)]
    subst h2
    refine hK _ c rfl (Cx.le.refl c) (Act.put_def _ _ _) ((Act.put_size _ _ _).trans hN) ?_
    rw [Act.put_tmps]
    cases hq : o.dst with
    | none => exact R
    | some d => exact R.put d (by rw [hN]; exact hdo d hq) (.tup []) undef (.tup [] [] rfl (by simp))
end
end Go.Proofs.Ev
namespace Go.Proofs.Ev
open Go Go.RowKit
set_option linter.unusedVariables false
set_option linter.unusedSimpArgs false
/-- Who must run ahead of whom, as a row of bits. -/
def maskOf (acc : List Nat) (o : Oper) : Nat := o.after.toList.foldl (fun s e => if Region.binds .any e then s ||| (2 ^ e.on ||| acc.getD e.on 0) else s) 0
def masks (ops : List Oper) : List Nat := ops.foldl (fun acc o => acc ++ [maskOf acc o]) []
theorem masks_snoc (ops : List Oper) (o : Oper) : masks (ops ++ [o]) = masks ops ++ [maskOf (masks ops) o] := by
  unfold masks
  rw [List.foldl_append]
  rfl
theorem snoc_ind {α : Type} {M : List α → Prop} (h0 : M []) (h1 : ∀ l x, M l → M (l ++ [x])) : ∀ l, M l := by
  have key : ∀ n (l : List α), l.length = n → M l := by
    intro n
    induction n with
    | zero => intro l hl; rw [List.eq_nil_of_length_eq_zero hl]; exact h0
    | succ n ih =>
      intro l hl
      have hne : l ≠ [] := by intro e; rw [e] at hl; simp at hl
      rw [← List.dropLast_concat_getLast hne]
      exact h1 _ _ (ih _ (by rw [List.length_dropLast]; omega))
  exact fun l => key _ l rfl
theorem masks_len : ∀ (ops : List Oper), (masks ops).length = ops.length := by
  intro ops
  refine snoc_ind (M := fun ops => (masks ops).length = ops.length) rfl (fun l o ih => ?_) ops
  rw [masks_snoc, List.length_append, ih]; simp
theorem mask_bit (acc : List Nat) (j : Nat) : ∀ (l : List Edge) (s : Nat), (l.foldl (fun s e => if Region.binds .any e then s ||| (2 ^ e.on ||| acc.getD e.on 0) else s) s).testBit j = true → s.testBit j = true ∨ ∃ e ∈ l, Region.binds .any e = true ∧ (j = e.on ∨ (acc.getD e.on 0).testBit j = true) := by
  intro l
  induction l with
  | nil => intro s h; exact .inl h
  | cons e l ih =>
    intro s h
    simp only [List.foldl_cons] at h
    rcases ih _ h with h' | ⟨e', h1, h2, h3⟩
    · split at h'
      · rename_i hb
        rw [Nat.testBit_or, Nat.testBit_or, Nat.testBit_two_pow] at h'
        simp only [Bool.or_eq_true, decide_eq_true_eq] at h'
        rcases h' with h' | h' | h'
        · exact .inl h'
        · exact .inr ⟨e, by simp, hb, .inl h'.symm⟩
        · exact .inr ⟨e, by simp, hb, .inr h'⟩
      · exact .inl h'
    · exact .inr ⟨e', by simp [h1], h2, h3⟩
def anc (ops : List Oper) (i j : Nat) : Bool := ((masks ops).getD i 0).testBit j
theorem anc_spec (ops : List Oper) : ∀ (i j : Nat), anc ops i j = true → ∃ o e, ops[i]? = some o ∧ e ∈ o.after ∧ Region.binds .any e = true ∧ (j = e.on ∨ (e.on < i ∧ anc ops e.on j = true)) := by
  refine snoc_ind (M := fun ops => ∀ (i j : Nat), anc ops i j = true → ∃ o e, ops[i]? = some o ∧ e ∈ o.after ∧ Region.binds .any e = true ∧ (j = e.on ∨ (e.on < i ∧ anc ops e.on j = true))) ?_ (fun l o ih => ?_) ops
  · intro i j h; simp [anc, masks] at h
  · intro i j h
    unfold anc at h
    rw [masks_snoc] at h
    have hl := masks_len l
    by_cases hi : i < l.length
    · rw [List.getD_eq_getElem?_getD, List.getElem?_append_left (by omega), ← List.getD_eq_getElem?_getD] at h
      obtain ⟨o', e, h1, h2, h3, h4⟩ := ih i j h
      refine ⟨o', e, by rw [List.getElem?_append_left hi]; exact h1, h2, h3, ?_⟩
      rcases h4 with h4 | ⟨h4, h5⟩
      · exact .inl h4
      · refine .inr ⟨h4, ?_⟩
        unfold anc
        rw [masks_snoc, List.getD_eq_getElem?_getD, List.getElem?_append_left (by omega), ← List.getD_eq_getElem?_getD]
        exact h5
    · by_cases he : i = l.length
      · subst he
        rw [List.getD_eq_getElem?_getD, List.getElem?_append_right (by omega)] at h
        have e0 : l.length - (masks l).length = 0 := by omega
        rw [e0] at h
        simp only [List.getElem?_cons_zero, Option.getD_some] at h
        rcases mask_bit (masks l) j _ 0 h with h' | ⟨e, h1, h2, h3⟩
        · simp at h'
        · refine ⟨o, e, by simp, by simpa using h1, h2, ?_⟩
          rcases h3 with h3 | h3
          · exact .inl h3
          · have hlt : e.on < l.length := by
              rcases Nat.lt_or_ge e.on l.length with h | h
              · exact h
              · rw [List.getD_eq_getElem?_getD, List.getElem?_eq_none (by omega)] at h3
                simp at h3
            refine .inr ⟨hlt, ?_⟩
            unfold anc
            rw [masks_snoc, List.getD_eq_getElem?_getD, List.getElem?_append_left (by omega), ← List.getD_eq_getElem?_getD]
            exact h3
      · rw [List.getD_eq_getElem?_getD, List.getElem?_eq_none (by simp; omega)] at h
        simp at h
/-- What has run is closed under what must run ahead. -/
def Closed (ops : Array Oper) (D : Nat → Bool) : Prop := ∀ (i : Nat) (o : Oper) (e : Edge), D i = true → ops[i]? = some o → e ∈ o.after → Region.binds .any e = true → D e.on = true
theorem Closed.anc {ops : Array Oper} {D : Nat → Bool} (h : Closed ops D) : ∀ (i j : Nat), D i = true → anc ops.toList i j = true → D j = true := by
  intro i
  induction i using Nat.strongRecOn with
  | _ i ih =>
    intro j hi ha
    obtain ⟨o, e, h1, h2, h3, h4⟩ := anc_spec _ i j ha
    have hd := h i o e hi (by simpa using h1) h2 h3
    rcases h4 with rfl | ⟨h4, h5⟩
    · exact hd
    · exact ih e.on h4 j hd h5
theorem Closed.ready {ops : Array Oper} {D : Nat → Bool} (h : Closed ops D) {i : Nat} {o : Oper} (ho : ops[i]? = some o) (hp : ∀ e ∈ o.after, Region.binds .any e = true → D e.on = true) {j : Nat} (ha : Ev.anc ops.toList i j = true) : D j = true := by
  obtain ⟨o', e, h1, h2, h3, h4⟩ := anc_spec _ i j ha
  have h1' : ops[i]? = some o' := by simpa using h1
  rw [ho] at h1'
  cases h1'
  have hd := hp e h2 h3
  rcases h4 with rfl | ⟨h4, h5⟩
  · exact hd
  · exact h.anc e.on j hd h5
/-- Those of a row of operations that have run. -/
def foldD : Nat → List (Oper × Eff) → (Nat → Bool) → St → St
  | _, [], _, σ => σ
  | k, p :: l, D, σ => foldD (k + 1) l D (if D k = true then σ.app p.1.dst p.2 else σ)
theorem foldl_updm (b : Id) : ∀ (w : List (Id × Blk)) (m : Id → Blk), b ∉ w.map (·.1) → (w.foldl (fun m p => updm m p.1 p.2) m) b = m b := by
  intro w
  induction w with
  | nil => intro m _; rfl
  | cons p w ih =>
    intro m h
    simp only [List.map_cons, List.mem_cons, not_or] at h
    simp only [List.foldl_cons]
    rw [ih _ h.2]
    simp [updm, h.1]
theorem app_t_other {σ : St} {dst : Option Nat} {e : Eff} {x : Nat} (h : dst ≠ some x) : (σ.app dst e).t x = σ.t x := by
  unfold St.app
  cases dst with
  | none => rfl
  | some d =>
    have : x ≠ d := fun q => h (by rw [q])
    simp [upd, this]
theorem app_m_other {σ : St} {dst : Option Nat} {e : Eff} {b : Id} (h : b ∉ e.wr.map (·.1)) : (σ.app dst e).m b = σ.m b := foldl_updm b e.wr σ.m h
theorem foldD_t (x : Nat) : ∀ (l : List (Oper × Eff)) (k : Nat) (D D' : Nat → Bool) (σ σ' : St), σ.t x = σ'.t x → (∀ j p, l[j]? = some p → p.1.dst = some x → D (k + j) = D' (k + j)) → (foldD k l D σ).t x = (foldD k l D' σ').t x := by
  intro l
  induction l with
  | nil => intro k D D' σ σ' h _; exact h
  | cons p l ih =>
    intro k D D' σ σ' h hD
    simp only [foldD]
    refine ih (k + 1) D D' _ _ ?_ (fun j q hj hq => by have := hD (j + 1) q (by simpa using hj) hq; rw [show k + 1 + j = k + (j + 1) by omega]; exact this)
    by_cases hx : p.1.dst = some x
    · have := hD 0 p rfl hx
      simp only [Nat.add_zero] at this
      rw [← this]
      by_cases hk : D k = true
      · rw [if_pos hk, if_pos hk]
        unfold St.app
        rw [hx]
        simp [upd]
      · rw [if_neg hk, if_neg hk]
        exact h
    · have e1 : ∀ (b : Bool) (s : St), (if b = true then s.app p.1.dst p.2 else s).t x = s.t x := by
        intro b s
        cases b
        · rfl
        · simp [app_t_other hx]
      rw [e1, e1]
      exact h
theorem foldl_updm_same (b : Id) : ∀ (w : List (Id × Blk)) (m m' : Id → Blk), m b = m' b → (w.foldl (fun m p => updm m p.1 p.2) m) b = (w.foldl (fun m p => updm m p.1 p.2) m') b := by
  intro w
  induction w with
  | nil => intro m m' h; exact h
  | cons p w ih =>
    intro m m' h
    simp only [List.foldl_cons]
    refine ih _ _ ?_
    simp only [updm]
    split
    · rfl
    · exact h
theorem foldD_m (b : Id) : ∀ (l : List (Oper × Eff)) (k : Nat) (D D' : Nat → Bool) (σ σ' : St), σ.m b = σ'.m b → (∀ j p, l[j]? = some p → b ∈ p.2.wr.map (·.1) → D (k + j) = D' (k + j)) → (foldD k l D σ).m b = (foldD k l D' σ').m b := by
  intro l
  induction l with
  | nil => intro k D D' σ σ' h _; exact h
  | cons p l ih =>
    intro k D D' σ σ' h hD
    simp only [foldD]
    refine ih (k + 1) D D' _ _ ?_ (fun j q hj hq => by have := hD (j + 1) q (by simpa using hj) hq; rw [show k + 1 + j = k + (j + 1) by omega]; exact this)
    by_cases hx : b ∈ p.2.wr.map (·.1)
    · have := hD 0 p rfl hx
      simp only [Nat.add_zero] at this
      rw [← this]
      by_cases hk : D k = true
      · rw [if_pos hk, if_pos hk]
        exact foldl_updm_same b _ _ _ h
      · rw [if_neg hk, if_neg hk]
        exact h
    · have e1 : ∀ (q : Bool) (s : St), (if q = true then s.app p.1.dst p.2 else s).m b = s.m b := by
        intro q s
        cases q
        · rfl
        · simp [app_m_other hx]
      rw [e1, e1]
      exact h
/-- Two operations that do not meddle with one another. -/
structure Apart (p q : Oper × Eff) : Prop where
  dst : ∀ d, p.1.dst = some d → q.1.dst ≠ some d
  wr : ∀ b, b ∈ p.2.wr.map (·.1) → b ∉ q.2.wr.map (·.1)
theorem foldl_updm_comm : ∀ (w v : List (Id × Blk)) (m : Id → Blk), (∀ b, b ∈ w.map (·.1) → b ∉ v.map (·.1)) → v.foldl (fun m p => updm m p.1 p.2) (w.foldl (fun m p => updm m p.1 p.2) m) = w.foldl (fun m p => updm m p.1 p.2) (v.foldl (fun m p => updm m p.1 p.2) m) := by
  intro w v m h
  funext b
  by_cases hw : b ∈ w.map (·.1)
  · rw [foldl_updm b v _ (h b hw)]
    exact foldl_updm_same b w _ _ (foldl_updm b v m (h b hw)).symm
  · rw [foldl_updm b w _ hw]
    exact foldl_updm_same b v _ _ (foldl_updm b w m hw)
theorem app_comm {p q : Oper × Eff} (h : Apart p q) (σ : St) : (σ.app p.1.dst p.2).app q.1.dst q.2 = (σ.app q.1.dst q.2).app p.1.dst p.2 := by
  unfold St.app
  congr 1
  · funext x
    cases hp : p.1.dst with
    | none => cases q.1.dst <;> rfl
    | some d =>
      cases hq : q.1.dst with
      | none => rfl
      | some d' =>
        have hne : d' ≠ d := fun e => h.dst d hp (by rw [hq, e])
        simp only [upd]
        by_cases e1 : x = d
        · subst e1; rw [if_neg (Ne.symm hne), if_pos rfl, if_pos rfl]
        · rw [if_neg e1, if_neg e1]
  · exact foldl_updm_comm _ _ _ h.wr
theorem foldD_app (p : Oper × Eff) : ∀ (l : List (Oper × Eff)) (k : Nat) (D : Nat → Bool) (σ : St), (∀ j q, l[j]? = some q → D (k + j) = true → Apart p q) → foldD k l D (σ.app p.1.dst p.2) = (foldD k l D σ).app p.1.dst p.2 := by
  intro l
  induction l with
  | nil => intro k D σ _; rfl
  | cons q l ih =>
    intro k D σ h
    simp only [foldD]
    have ih' := fun s => ih (k + 1) D s (fun j r hj hr => h (j + 1) r (by simpa using hj) (by rw [show k + (j + 1) = k + 1 + j by omega]; exact hr))
    by_cases hk : D k = true
    · rw [if_pos hk, if_pos hk, app_comm (h 0 q rfl hk)]
      exact ih' _
    · rw [if_neg hk, if_neg hk]
      exact ih' _
theorem foldD_insert (p : Oper × Eff) (i : Nat) : ∀ (l : List (Oper × Eff)) (k : Nat) (D D' : Nat → Bool) (σ : St), (∀ j, j ≠ i → D' j = D j) → D i = false → D' i = true → k ≤ i → l[i - k]? = some p → (∀ j q, l[j]? = some q → i < k + j → D (k + j) = true → Apart p q) → foldD k l D' σ = (foldD k l D σ).app p.1.dst p.2 := by
  intro l
  induction l with
  | nil => intro k D D' σ _ _ _ _ h _; simp at h
  | cons q l ih =>
    intro k D D' σ h1 h2 h3 hk hi hap
    simp only [foldD]
    by_cases e : k = i
    · subst e
      rw [Nat.sub_self] at hi
      cases hi
      rw [if_pos h3, if_neg (by rw [h2]; decide)]
      rw [← foldD_app p l (k + 1) D σ (fun j r hj hr => hap (j + 1) r (by simpa using hj) (by omega) (by rw [show k + (j + 1) = k + 1 + j by omega]; exact hr))]
      have : ∀ (l : List (Oper × Eff)) (k' : Nat) (s : St), k < k' → foldD k' l D' s = foldD k' l D s := by
        intro l
        induction l with
        | nil => intro _ _ _; rfl
        | cons r l ih2 =>
          intro k' s hk'
          simp only [foldD]
          rw [h1 k' (by omega)]
          exact ih2 (k' + 1) _ (by omega)
      exact this l (k + 1) _ (by omega)
    · rw [h1 k e]
      refine ih (k + 1) D D' _ h1 h2 h3 (by omega) ?_ (fun j r hj hij hr => hap (j + 1) r (by simpa using hj) (by omega) (by rw [show k + (j + 1) = k + 1 + j by omega]; exact hr))
      have : i - k = (i - (k + 1)) + 1 := by omega
      rw [this] at hi
      simpa using hi
theorem foldD_ext : ∀ (l : List (Oper × Eff)) (k : Nat) (D D' : Nat → Bool) (σ : St), (∀ j, k ≤ j → j < k + l.length → D j = D' j) → foldD k l D σ = foldD k l D' σ := by
  intro l
  induction l with
  | nil => intro _ _ _ _ _; rfl
  | cons p l ih =>
    intro k D D' σ h
    simp only [List.length_cons] at h
    simp only [foldD]
    rw [h k (Nat.le_refl _) (by omega)]
    exact ih (k + 1) D D' _ (fun j h1 h2 => h j (by omega) (by omega))
theorem foldD_append : ∀ (l m : List (Oper × Eff)) (k : Nat) (D : Nat → Bool) (σ : St), foldD k (l ++ m) D σ = foldD (k + l.length) m D (foldD k l D σ) := by
  intro l
  induction l with
  | nil => intro m k D σ; rfl
  | cons p l ih =>
    intro m k D σ
    simp only [List.cons_append, foldD, List.length_cons]
    rw [ih m (k + 1) D _, Nat.add_assoc, Nat.add_comm 1]
theorem foldD_none : ∀ (l : List (Oper × Eff)) (k : Nat) (D : Nat → Bool) (σ : St), (∀ j, k ≤ j → D j = false) → foldD k l D σ = σ := by
  intro l
  induction l with
  | nil => intro _ _ _ _; rfl
  | cons p l ih =>
    intro k D σ h
    simp only [foldD]
    rw [h k (Nat.le_refl _)]
    exact ih (k + 1) D _ (fun j hj => h j (by omega))
end Go.Proofs.Ev
namespace Go.Proofs.Ev
open Go Go.RowKit
set_option linter.unusedVariables false
set_option linter.unusedSimpArgs false
def opTmps (l : List Operand) : List Nat := l.filterMap fun x => match x with | .tmp t => some t | _ => none
def guardTmp (ops : List Oper) (o : Oper) : List Nat := match o.guard with | some (j, _) => ((ops[j]?).bind (fun o : Oper => o.dst)).toList | none => []
def namesOf (ops : List Oper) (o : Oper) : List Nat := o.dst.toList ++ opTmps o.op.operands.toList ++ guardTmp ops o
def clear (ops : List Oper) (o q : Oper) : Bool := (o.dst.toList.all fun d => !(namesOf ops q).contains d) && (q.dst.toList.all fun d => !(namesOf ops o).contains d)
/-- What is asked of a region's text, once for all. -/
def statOk (ops : List Oper) : Bool :=
  (List.range ops.length).all fun j => match ops[j]? with
    | none => true
    | some q => (q.after.toList.all fun e => !(Region.binds .any e) || decide (e.on < j)) && (List.range j).all fun i => anc ops j i || match ops[i]? with
      | none => true
      | some o => clear ops o q
theorem statOk_edge {ops : List Oper} (h : statOk ops = true) {j : Nat} {q : Oper} (hj : ops[j]? = some q) {e : Edge} (he : e ∈ q.after) (hb : Region.binds .any e = true) : e.on < j := by
  unfold statOk at h
  have hlt : j < ops.length := (List.getElem?_eq_some_iff.1 hj).1
  have h1 := List.all_eq_true.1 h j (List.mem_range.2 hlt)
  rw [hj] at h1
  simp only [Bool.and_eq_true] at h1
  have h2 := List.all_eq_true.1 h1.1 e (by simpa using he)
  simpa [hb] using h2
theorem statOk_pair {ops : List Oper} (h : statOk ops = true) {i j : Nat} (hij : i < j) {o q : Oper} (hi : ops[i]? = some o) (hj : ops[j]? = some q) (ha : anc ops j i = false) :
    (∀ d, o.dst = some d → d ∉ namesOf ops q) ∧ (∀ d, q.dst = some d → d ∉ namesOf ops o) := by
  unfold statOk at h
  have hlt : j < ops.length := (List.getElem?_eq_some_iff.1 hj).1
  have h1 := List.all_eq_true.1 h j (List.mem_range.2 hlt)
  rw [hj] at h1
  simp only [Bool.and_eq_true] at h1
  have h2 := List.all_eq_true.1 h1.2 i (List.mem_range.2 hij)
  rw [ha, hi] at h2
  simp only [Bool.false_or, clear, Bool.and_eq_true] at h2
  refine ⟨fun d hd => ?_, fun d hd => ?_⟩
  · have := List.all_eq_true.1 h2.1 d (by simp [hd])
    simpa using this
  · have := List.all_eq_true.1 h2.2 d (by simp [hd])
    simpa using this
/-- How far two operations' memory lies apart. -/
def memOk (r w r' w' : List Id) : Prop := (∀ b ∈ w, b ∉ r' ∧ b ∉ w') ∧ (∀ b ∈ w', b ∉ r)
section
variable {P : Program} {w0 : World} {foot omut : Nat → Prop} {N : Nat} {S : Steps'}
theorem opTmps_mem {l : List Operand} {t : Nat} (h : Operand.tmp t ∈ l) : t ∈ opTmps l := by
  unfold opTmps
  exact List.mem_filterMap.2 ⟨.tmp t, h, rfl⟩
/-- The law: in whatever order the operations run, they come to what they come to in the text's order. -/
theorem draw_sound (hS : Good P w0 foot omut N S) {ops : Array Oper} (hst : statOk ops.toList = true) (hd : ∀ (j d : Nat), (ops[j]?).bind (fun o : Oper => o.dst) = some d → d < N) {Q : Exit → Act → World → Prop} {base : Nat} {ds : List Deferred} {σ : St}
    (l : List (Oper × Eff)) (hl : l.map (·.1) = ops.toList)
    (hstep : ∀ i p, l[i]? = some p → StepG S ops.toList (foldD 0 l (fun j => decide (j < i)) σ) p.1 p.2)
    (hpair : ∀ i j p q, i < j → l[i]? = some p → l[j]? = some q → anc ops.toList j i = true ∨ memOk (refsOf (foldD 0 l (fun k => decide (k < i)) σ) p.1) (p.2.wr.map (·.1)) (refsOf (foldD 0 l (fun k => decide (k < j)) σ) q.1) (q.2.wr.map (·.1)))
    (cb : Cx) (hQ : ∀ (a : Act) (c : Cx), cb.le c → c.base = base → a.defers = ds → a.tmps.size = N → Rel w0 foot omut (foldD 0 l (fun _ => true) σ) a.tmps c → Q .normal a c.w) :
    ∀ (fuel : Nat) (listed : Array Bool) (a : Act) (c : Cx), listed.size = ops.size → ops.size ≤ fuel + (List.range ops.size).countP (fun j => listed.getD j false) → Closed ops (fun j => listed.getD j false) → cb.le c → c.base = base → a.defers = ds → a.tmps.size = N → Rel w0 foot omut (foldD 0 l (fun j => listed.getD j false) σ) a.tmps c →
      wpAny P .any ops Q fuel listed a c.w := by
  have hlen : l.length = ops.size := by have := congrArg List.length hl; simpa using this
  have hop : ∀ (i : Nat) (p : Oper × Eff), l[i]? = some p → ops[i]? = some p.1 := by
    intro i p h
    have h1 : (l.map (·.1))[i]? = some p.1 := by rw [List.getElem?_map, h]; rfl
    rw [hl] at h1
    simpa using h1
  -- two operations that may run in either order
  have hfree : ∀ (D : Nat → Bool) (i j : Nat) (p q : Oper × Eff), Closed ops D → D i = false → D j = true → l[i]? = some p → l[j]? = some q → (∀ k, anc ops.toList i k = true → D k = true) → i < j ∨ (j < i ∧ anc ops.toList i j = false) →
      (∀ d, p.1.dst = some d → d ∉ namesOf ops.toList q.1) ∧ (∀ d, q.1.dst = some d → d ∉ namesOf ops.toList p.1) ∧ (∀ b, b ∈ q.2.wr.map (·.1) → b ∉ refsOf (foldD 0 l (fun k => decide (k < i)) σ) p.1 ∧ b ∉ p.2.wr.map (·.1)) := by
    intro D i j p q hC hi hj hp hq hanc hij
    rcases hij with hij | ⟨hij, hna⟩
    · have hna : anc ops.toList j i = false := by
        cases h : anc ops.toList j i with
        | false => rfl
        | true => have := hC.anc j i hj h; rw [hi] at this; cases this
      have hs := statOk_pair hst hij (by simpa using hop i p hp) (by simpa using hop j q hq) hna
      refine ⟨hs.1, hs.2, fun b hb => ?_⟩
      rcases hpair i j p q hij hp hq with h | h
      · rw [hna] at h; cases h
      · exact ⟨h.2 b hb, fun hb' => (h.1 b hb').2 hb⟩
    · have hs := statOk_pair hst hij (by simpa using hop j q hq) (by simpa using hop i p hp) hna
      refine ⟨hs.2, hs.1, fun b hb => ?_⟩
      rcases hpair j i q p hij hq hp with h | h
      · rw [hna] at h; cases h
      · exact ⟨(h.1 b hb).1, (h.1 b hb).2⟩
  intro fuel
  induction fuel with
  | zero =>
    intro listed a c hls hf hC hcb hb hds hN R
    have hall : ∀ j, j < ops.size → listed.getD j false = true := by
      have h1 := List.countP_le_length (p := fun j => listed.getD j false) (l := List.range ops.size)
      have h2 : (List.range ops.size).countP (fun j => listed.getD j false) = (List.range ops.size).length := by
        rw [List.length_range] at h1 ⊢; omega
      intro j hj
      exact List.countP_eq_length.1 h2 j (List.mem_range.2 hj)
    refine ⟨?_, ?_⟩
    · rw [List.eq_nil_iff_forall_not_mem]
      intro j hj
      obtain ⟨h1, o, h2, _⟩ := mem_ready.1 hj
      have hlt : j < ops.size := (Array.getElem?_eq_some_iff.1 h2).1
      have h3 := hall j hlt
      rw [Array.getD_eq_getD_getElem?, Array.getElem?_eq_getElem (by omega)] at h1 h3
      simp at h1 h3
      rw [h1] at h3; cases h3
    · refine hQ a c hcb hb hds hN ?_
      have : foldD 0 l (fun _ => true) σ = foldD 0 l (fun j => listed.getD j false) σ := by
        exact foldD_ext l 0 _ _ σ (fun j _ hj => (hall j (by omega)).symm)
      rw [this]
      exact R
  | succ fuel ih =>
    intro listed a c hls hf hC hcb hb hds hN R
    refine ⟨?_, ?_⟩
    · intro hr
      have hall : ∀ j, j < ops.size → listed.getD j false = true := by
        intro j
        induction j using Nat.strongRecOn with
        | _ j ihj =>
          intro hj
          cases hx : listed.getD j false with
          | true => rfl
          | false =>
            exfalso
            have hm : j ∈ Region.ready .any ops listed := by
              refine mem_ready.2 ⟨?_, ops[j], Array.getElem?_eq_getElem hj, fun e he hbd => ?_⟩
              · rw [Array.getD_eq_getD_getElem?, Array.getElem?_eq_getElem (by omega)] at hx ⊢
                simpa using hx
              · have hlt := statOk_edge hst (j := j) (q := ops[j]) (by simp [hj]) he hbd
                exact ihj e.on hlt (by omega)
            rw [hr] at hm
            cases hm
      refine hQ a c hcb hb hds hN ?_
      have : foldD 0 l (fun _ => true) σ = foldD 0 l (fun j => listed.getD j false) σ := by
        exact foldD_ext l 0 _ _ σ (fun j _ hj => (hall j (by omega)).symm)
      rw [this]
      exact R
    · intro i hi
      obtain ⟨h1, o, h2, h3⟩ := mem_ready.1 hi
      have hlt : i < ops.size := (Array.getElem?_eq_some_iff.1 h2).1
      have hDi : listed.getD i false = false := by
        rw [Array.getD_eq_getD_getElem?, Array.getElem?_eq_getElem (by omega)] at h1 ⊢
        simpa using h1
      have hp : l[i]? = some l[i] := List.getElem?_eq_getElem (by omega)
      obtain ⟨p, hpe⟩ : ∃ p, l[i]? = some p := ⟨_, hp⟩
      have hop' := hop i p hpe
      have hoe : o = p.1 := by rw [h2] at hop'; exact Option.some.inj hop'
      subst hoe
      have hanc : ∀ k, anc ops.toList i k = true → listed.getD k false = true := fun k hk => hC.ready h2 h3 hk
      have hst' := hstep i p hpe
      -- what it reads is as in the text's order
      have hagt : ∀ x, x ∈ namesOf ops.toList p.1 → (foldD 0 l (fun j => listed.getD j false) σ).t x = (foldD 0 l (fun j => decide (j < i)) σ).t x := by
        intro x hx
        refine foldD_t x l 0 _ _ σ σ rfl (fun j q hj hq => ?_)
        simp only [Nat.zero_add]
        by_cases hji : j = i
        · subst hji; rw [hDi]; simp
        · cases hDj : listed.getD j false with
          | true =>
            by_cases hlt' : j < i
            · simp [hlt']
            · exfalso
              exact (hfree _ i j p q hC hDi hDj hpe hj hanc (.inl (by omega))).2.1 x hq hx
          | false =>
            by_cases hlt' : j < i
            · exfalso
              have hna : anc ops.toList i j = false := by
                cases h : anc ops.toList i j with
                | false => rfl
                | true => have := hanc j h; rw [hDj] at this; cases this
              exact (statOk_pair hst hlt' (by simpa using hop j q hj) (by simpa using hop i p hpe) hna).1 x hq hx
            · simp [hlt']
      have hagm : ∀ b, b ∈ refsOf (foldD 0 l (fun j => decide (j < i)) σ) p.1 ++ p.2.wr.map (·.1) → (foldD 0 l (fun j => listed.getD j false) σ).m b = (foldD 0 l (fun j => decide (j < i)) σ).m b := by
        intro b hb'
        refine foldD_m b l 0 _ _ σ σ rfl (fun j q hj hq => ?_)
        simp only [Nat.zero_add]
        by_cases hji : j = i
        · subst hji; rw [hDi]; simp
        · cases hDj : listed.getD j false with
          | true =>
            by_cases hlt' : j < i
            · simp [hlt']
            · exfalso
              have := (hfree _ i j p q hC hDi hDj hpe hj hanc (.inl (by omega))).2.2 b hq
              rcases List.mem_append.1 hb' with h | h
              · exact this.1 h
              · exact this.2 h
          | false =>
            by_cases hlt' : j < i
            · exfalso
              have hna : anc ops.toList i j = false := by
                cases h : anc ops.toList i j with
                | false => rfl
                | true => have := hanc j h; rw [hDj] at this; cases this
              rcases hpair j i q p hlt' hj hpe with h | h
              · rw [hna] at h; cases h
              · rcases List.mem_append.1 hb' with h' | h'
                · exact (h.1 b hq).1 h'
                · exact (h.1 b hq).2 h'
            · simp [hlt']
      have hev : ∀ x ∈ p.1.op.operands, (foldD 0 l (fun j => listed.getD j false) σ).ev x = (foldD 0 l (fun j => decide (j < i)) σ).ev x := by
        intro x hx
        cases x with
        | tmp t =>
          refine hagt t ?_
          unfold namesOf
          exact List.mem_append.2 (.inl (List.mem_append.2 (.inr (opTmps_mem (by simpa using hx)))))
        | _ => rfl
      have hwant : wantS ops.toList (foldD 0 l (fun j => listed.getD j false) σ) p.1 = wantS ops.toList (foldD 0 l (fun j => decide (j < i)) σ) p.1 := by
        unfold wantS
        split
        · rfl
        · rename_i j want hg
          cases hq : (ops.toList[j]?).bind (fun o : Oper => o.dst) with
          | none => rfl
          | some d =>
            simp only [Option.map_some]
            rw [hagt d ?_]
            unfold namesOf guardTmp
            rw [hg]
            have hq' : (ops[j]?.bind fun o : Oper => o.dst) = some d := by simpa using hq
            simp [hq']
      have hst2 : StepG S ops.toList (foldD 0 l (fun j => listed.getD j false) σ) p.1 p.2 := by
        rcases hst' with ⟨s1, s2⟩ | ⟨s1, s2⟩
        · exact .inl ⟨hwant.trans s1, hS.near _ _ _ _ s2 hev hagm⟩
        · exact .inr ⟨hwant.trans s1, s2⟩
      refine wpOp_step hS h2 R hN hd hst2 (fun a' d q1 q2 q3 q4 q5 => ?_)
      -- the next state
      have hset : ∀ j, j ≠ i → (listed.setIfInBounds i true).getD j false = listed.getD j false := fun j hj => getD_set_ne false (Ne.symm hj)
      have hseti : (listed.setIfInBounds i true).getD i false = true := by
        rw [Array.getD_eq_getD_getElem?]
        simp [hls, hlt]
      have hins : foldD 0 l (fun j => (listed.setIfInBounds i true).getD j false) σ = (foldD 0 l (fun j => listed.getD j false) σ).app p.1.dst p.2 := by
        refine foldD_insert p i l 0 _ _ σ hset hDi hseti (Nat.zero_le _) (by simpa using hpe) (fun j q hj hij hDj => ?_)
        simp only [Nat.zero_add] at hij hDj
        have := hfree _ i j p q hC hDi hDj hpe hj hanc (.inl hij)
        refine ⟨fun d hd' hq => this.1 d hd' ?_, fun b hb1 hb2 => (this.2.2 b hb2).2 hb1⟩
        unfold namesOf
        simp [hq]
      refine ih _ a' d (by simpa using hls) ?_ ?_ (hcb.trans q2) (q1.trans hb) (q3.trans hds) q4 (by rw [hins]; exact q5)
      · have : (List.range ops.size).countP (fun j => (listed.setIfInBounds i true).getD j false) = (List.range ops.size).countP (fun j => listed.getD j false) + 1 := by
          have key : ∀ (n : Nat), (List.range n).countP (fun j => (listed.setIfInBounds i true).getD j false) = (List.range n).countP (fun j => listed.getD j false) + if i < n then 1 else 0 := by
            intro n
            induction n with
            | zero => simp
            | succ n ihn =>
              rw [List.range_succ, List.countP_append, List.countP_append, ihn]
              simp only [List.countP_cons, List.countP_nil]
              by_cases hn : n = i
              · subst hn
                rw [hseti, hDi]
                simp
              · rw [hset n hn]
                by_cases h5 : i < n
                · have h6 : i < n + 1 := by omega
                  simp only [h5, h6, if_true]; omega
                · have h6 : ¬ i < n + 1 := by omega
                  simp only [h5, h6, if_false]; omega
          rw [key, if_pos hlt]
        omega
      · intro j o' e hj ho' he hbd
        by_cases hji : j = i
        · subst hji
          rw [h2] at ho'
          cases ho'
          have := h3 e he hbd
          exact getD_set_true this
        · have hj' : listed.getD j false = true := by
            have := hset j hji
            simp only at hj
            rw [this] at hj
            exact hj
          exact getD_set_true (hC j o' e hj' ho' he hbd)
end
end Go.Proofs.Ev
namespace Go.Proofs.Ev
open Go Go.RowKit
set_option linter.unusedVariables false
set_option linter.unusedSimpArgs false
def frz1 (b : Id) (v : Nat) (rs : List (List PV)) : PV → PV
  | .own b' v' n => if b' = b ∧ v' = v ∧ n ≤ rs.length then .ro (rs.take n) else .own b' v' n
  | .ptr b' v' i o => if b' = b ∧ v' = v then (match rs[i]? with | some row => .rp row o | none => .ptr b' v' i o) else .ptr b' v' i o
  | x => x
def frzV (b : Id) (v : Nat) (rs : List (List PV)) : PV → PV
  | .agg cs => .agg (cs.map (frz1 b v rs))
  | .fn f cs => .fn f (cs.map (frz1 b v rs))
  | x => frz1 b v rs x
def frzC (b : Id) (v : Nat) (rs : List (List PV)) : Cont → Cont
  | .rows false e sz rs' => .rows false e sz (rs'.map fun r => r.map (frz1 b v rs))
  | x => x
def frzK (b : Id) (v : Nat) (rs : List (List PV)) (k : Blk) : Blk := ⟨k.ver, k.live.map (frzC b v rs)⟩
def frzM (m : Id → Blk) (b : Id) (v : Nat) (rs : List (List PV)) : Id → Blk := fun i => if i = b then ⟨v, none⟩ else frzK b v rs (m i)
/-- A row of our own becomes one that is only read. -/
def St.frz (σ : St) (b : Id) : St :=
  match (σ.m b).live with
  | some (.rows fl _ _ rs) => if fl = true ∨ (rs.all fun r => r.all PV.sf) = true then { t := fun i => frzV b (σ.m b).ver rs (σ.t i), m := frzM σ.m b (σ.m b).ver rs } else σ
  | _ => σ
def St.frzL (σ : St) (l : List Id) : St := l.foldl St.frz σ
section
variable {P : Program} {w0 : World} {foot omut : Nat → Prop} {σ : St} {tmps : Array Value} {c : Cx}
/-- An own row, as one that is only read. -/
theorem own_ro {d : Cx} {b : Id} {n : Nat} {u : Value} {e sz : Nat} {rs : List (List PV)} {fl : Bool} (hB : RelB c foot b (.rows fl e sz rs)) (hfl : fl = true ∨ (rs.all fun r => r.all PV.sf) = true) (h : RelV c (.own b (c.ver b) n) u) (hn : n ≤ rs.length) (hle : c.le d) (hmu : ∀ g cap, c.at_ b = some (g, cap) → ¬ d.mu g ∧ d.w.heap[g]? = c.w.heap[g]?) : RelV d (.ro (rs.take n)) u := by
  have htake : ∀ (i : Nat) (row : List PV), (rs.take n)[i]? = some row → rs[i]? = some row := by
    intro i row hi
    rw [List.getElem?_take] at hi
    split at hi
    · exact hi
    · cases hi
  have hlen : (rs.take n).length = n := by simp; omega
  cases h with
  | own b v n u h1 hv h =>
    have hh := h rfl
    cases hB with
    | none fl e sz hz h0 ha =>
      have hn0 : n = 0 := by simpa using hn
      subst hn0
      rcases hh with ⟨a1, a2, a3⟩ | ⟨g, cap, a1, a2, a3⟩
      · subst a3
        exact .ro [] none 0 sz (fun _ _ => .bool false) (Nat.le_refl _) (fun _ => ⟨rfl, rfl⟩) (by simp) (by simp) (by simp) (by simp) (by simp)
      · rw [ha] at a1; cases a1
    | rows fl e sz rs g cap cur hz h0 ha ho hheap hrn hm hs hl h1' hr =>
      rcases hh with ⟨a1, a2, a3⟩ | ⟨g', cap', a1, a2, a3⟩
      · rw [ha] at a1; cases a1
      · rw [ha] at a1
        cases a1
        subst a3
        obtain ⟨m1, m2⟩ := hmu g cap ha
        have hcur : ∀ (i : Nat) (row : List PV) (j : Nat) (x : PV), rs[i]? = some row → row[j]? = some x → cur[i * sz + j]? = some (cur.getD (i * sz + j) undef) ∧ RelV c x (cur.getD (i * sz + j) undef) := by
          intro i row j x p q
          obtain ⟨u, u1, u2⟩ := hr i row j x p q
          have : cur.getD (i * sz + j) undef = u := by rw [Array.getD_eq_getD_getElem?, u1]; rfl
          rw [this]
          exact ⟨u1, u2⟩
        have hro := RelV.ro (c := d) (rs.take n) (some ⟨g, 0, none⟩) cap sz (fun i j => cur.getD (i * sz + j) undef) (by rw [hlen]; exact a2) (fun e => by cases e) (fun i row hi => hl i row (htake i row hi))
          (fun ad e _ => by cases e; exact ⟨rfl, m1, Nat.lt_of_lt_of_le (Array.getElem?_eq_some_iff.1 hheap).1 hle.size⟩)
          (fun i row j x p q => hfl.elim (fun e => (h1' i row j x (htake i row p) q).2 e) (fun e => List.all_eq_true.1 (List.all_eq_true.1 e row (List.mem_of_getElem? (htake i row p))) x (List.mem_of_getElem? q)))
          (fun ad i row j x e p q => by
            cases e
            rw [cell_block (m2.trans hheap)]
            simp only [Nat.zero_add]
            exact (hcur i row j x (htake i row p) q).1)
          (fun i row j x p q => (hcur i row j x (htake i row p) q).2.le hle)
        rw [hlen] at hro
        exact hro
/-- A pointer into a block that is no longer written. -/
theorem ptr_rp {d : Cx} {b : Id} {i o : Nat} {u : Value} {e sz : Nat} {rs : List (List PV)} {row : List PV} {fl : Bool} (hB : RelB c foot b (.rows fl e sz rs)) (hfl : fl = true ∨ (rs.all fun r => r.all PV.sf) = true) (h : RelV c (.ptr b (c.ver b) i o) u) (hi : rs[i]? = some row) (hle : c.le d) (hmu : ∀ g cap, c.at_ b = some (g, cap) → ¬ d.mu g ∧ d.w.heap[g]? = c.w.heap[g]?) : RelV d (.rp row o) u := by
  cases h with
  | ptr b v i o u h1 hv h =>
    obtain ⟨g', cap', a1, a2⟩ := h rfl
    cases hB with
    | none fl e sz hz h0 ha => simp at hi
    | rows fl e sz rs g cap cur hz h0 ha ho hheap hrn hm hs hl h1' hr =>
      rw [ha] at a1
      simp only [Option.some.injEq, Prod.mk.injEq] at a1
      obtain ⟨rfl, rfl⟩ := a1
      subst a2
      obtain ⟨m1, m2⟩ := hmu _ _ ha
      have hcur : ∀ (j : Nat) (x : PV), row[j]? = some x → cur[i * sz + j]? = some (cur.getD (i * sz + j) undef) ∧ RelV c x (cur.getD (i * sz + j) undef) := by
        intro j x q
        obtain ⟨u, u1, u2⟩ := hr i row j x hi q
        have : cur.getD (i * sz + j) undef = u := by rw [Array.getD_eq_getD_getElem?, u1]; rfl
        rw [this]
        exact ⟨u1, u2⟩
      have := RelV.rp (c := d) row o ⟨_, i * sz, none⟩ (fun j => cur.getD (i * sz + j) undef) rfl m1
        (fun j x q => hfl.elim (fun e => (h1' i row j x hi q).2 e) (fun e => List.all_eq_true.1 (List.all_eq_true.1 e row (List.mem_of_getElem? hi)) x (List.mem_of_getElem? q)))
        (Nat.lt_of_lt_of_le (Array.getElem?_eq_some_iff.1 hheap).1 hle.size)
        (fun j x q => by rw [cell_block (m2.trans hheap)]; exact (hcur j x q).1)
        (fun j x q => (hcur j x q).2.le hle)
      rw [hz]
      exact this
theorem Rel.frz (R : Rel w0 foot omut σ tmps c) (b : Id) : ∃ d : Cx, d.w = c.w ∧ d.base = c.base ∧ c.le d ∧ Rel w0 foot omut (σ.frz b) tmps d := by
  unfold St.frz
  split
  · rename_i fl e sz rs hl
    by_cases hfl : fl = true ∨ (rs.all fun r => r.all PV.sf) = true
    case neg => rw [if_neg hfl]; exact ⟨c, rfl, rfl, Cx.le.refl c, R⟩
    rw [if_pos hfl]
    let m' := frzM σ.m b (σ.m b).ver rs
    let d : Cx := { c with mu := fun k => omut k ∨ ∃ b0 y cap, (m' b0).live = some y ∧ c.at_ b0 = some (k, cap) }
    have hmo : ∀ i, i ≠ b → m' i = frzK b (σ.m b).ver rs (σ.m i) := fun i hi => by simp [m', frzM, hi]
    have hmb : m' b = ⟨(σ.m b).ver, none⟩ := by simp [m', frzM]
    have hlv : ∀ i y, i ≠ b → (m' i).live = some y → ∃ y0, (σ.m i).live = some y0 ∧ y = frzC b (σ.m b).ver rs y0 := by
      intro i y hi h
      rw [hmo i hi] at h
      simp only [frzK] at h
      cases hq : (σ.m i).live with
      | none => rw [hq] at h; cases h
      | some y0 => rw [hq] at h; cases h; exact ⟨y0, rfl, rfl⟩
    have hle : c.le d := by
      refine ⟨rfl, Nat.le_refl _, fun k hk hm => ⟨?_, rfl⟩, fun _ => Nat.le_refl _, fun _ _ => ⟨rfl, rfl⟩⟩
      rintro (ho | ⟨b0, y, cap, h1, h2⟩)
      · exact hm ((R.mt k).2 (.inl ho))
      · by_cases e : b0 = b
        · subst e; rw [hmb] at h1; cases h1
        · obtain ⟨y0, h1, _⟩ := hlv _ _ e h1
          exact hm ((R.mt k).2 (.inr ⟨b0, y0, cap, h1, h2⟩))
    refine ⟨d, rfl, rfl, hle, ?_⟩
    have hB := R.mem b _ hl
    have hmu : ∀ g cap, c.at_ b = some (g, cap) → ¬ d.mu g ∧ d.w.heap[g]? = c.w.heap[g]? := by
      intro g cap ha
      refine ⟨?_, rfl⟩
      rintro (ho | ⟨b0, y, cap', h1, h2⟩)
      · have h3 := R.om g ho
        rcases (hB.lt ha).2 with h | h
        · omega
        · exact h3.2 h
      · by_cases e : b0 = b
        · subst e; rw [hmb] at h1; cases h1
        · obtain ⟨y0, h1, _⟩ := hlv _ _ e h1
          exact e (R.inj b0 b y0 _ g cap' cap h1 hl h2 ha)
    have key : ∀ (x : PV) (u : Value), RelV c x u → RelV d (frz1 b (σ.m b).ver rs x) u := by
      intro x u hr
      unfold frz1
      split
      · rename_i b' v' n
        split
        · rename_i hc
          obtain ⟨rfl, rfl, hn⟩ := hc
          refine own_ro hB hfl (by rw [R.ver b']; exact hr) hn hle hmu
        · exact hr.le hle
      · rename_i b' v' i o
        split
        · rename_i hc
          obtain ⟨rfl, rfl⟩ := hc
          split
          · rename_i row hi
            exact ptr_rp hB hfl (by rw [R.ver b']; exact hr) hi hle hmu
          · exact hr.le hle
        · exact hr.le hle
      · exact hr.le hle
    have kone : ∀ x : PV, x.one = true → (frz1 b (σ.m b).ver rs x).one = true := by
      intro x hx
      unfold frz1
      split
      · split <;> rfl
      · split
        · split <;> rfl
        · rfl
      · exact hx
    constructor
    · intro i
      show RelV d (frzV b (σ.m b).ver rs (σ.t i)) _
      have hr := R.tm i
      unfold frzV
      split
      · rename_i cs he
        rw [he] at hr
        generalize tmps.getD i undef = u at hr
        cases hr with
        | agg cs us hl h =>
          refine .agg _ us (by simpa using hl) (fun j x u hx hu => ?_)
          rw [List.getElem?_map] at hx
          cases hq : cs[j]? with
          | none => rw [hq] at hx; cases hx
          | some q => rw [hq] at hx; cases hx; exact key q u (h j q u hq hu)
      · rename_i f cs he
        rw [he] at hr
        generalize tmps.getD i undef = u at hr
        cases hr with
        | fn f cs us hl h =>
          refine .fn f _ us (by simpa using hl) (fun j x u hx hu => ?_)
          rw [List.getElem?_map] at hx
          cases hq : cs[j]? with
          | none => rw [hq] at hx; cases hx
          | some q => rw [hq] at hx; cases hx; exact key q u (h j q u hq hu)
      · exact key _ _ hr
    · intro i
      show c.ver i = (m' i).ver
      by_cases e : i = b
      · subst e; rw [hmb]; exact R.ver i
      · rw [hmo i e]; exact R.ver i
    · intro b0 y h
      change (m' b0).live = some y at h
      by_cases e : b0 = b
      · subst e; rw [hmb] at h; cases h
      · obtain ⟨y0, hy0, rfl⟩ := hlv b0 y e h
        have hB0 := R.mem b0 y0 hy0
        cases hB0 with
        | none fl e sz hz h0 ha => cases fl <;> exact .none _ e sz hz h0 ha
        | iter s pos g cap ha ho hh => exact .iter s pos g cap ha ho hh
        | rows fl e sz rs2 g cap cur hz h0 ha ho hh hn hm hs hl2 h1 hr =>
          cases fl with
          | true => exact (RelB.rows true e sz rs2 g cap cur hz h0 ha ho hh hn hm hs hl2 h1 hr).le hle rfl (fun _ _ _ => rfl)
          | false =>
            refine .rows false e sz _ g cap cur hz h0 ha ho hh (by simpa using hn) hm ⟨hs.1, fun h => by rw [List.length_map]; exact hs.2 h⟩ (fun i row hi => ?_) (fun i row j x hi hx => ?_) (fun i row j x hi hx => ?_)
            · rw [List.getElem?_map] at hi
              cases hq : rs2[i]? with
              | none => rw [hq] at hi; cases hi
              | some q => rw [hq] at hi; cases hi; rw [List.length_map]; exact hl2 i q hq
            · rw [List.getElem?_map] at hi
              cases hq : rs2[i]? with
              | none => rw [hq] at hi; cases hi
              | some q =>
                rw [hq] at hi
                cases hi
                rw [List.getElem?_map] at hx
                cases hq2 : q[j]? with
                | none => rw [hq2] at hx; cases hx
                | some z => rw [hq2] at hx; cases hx; exact ⟨kone z (h1 i q j z hq hq2).1, fun e => by cases e⟩
            · rw [List.getElem?_map] at hi
              cases hq : rs2[i]? with
              | none => rw [hq] at hi; cases hi
              | some q =>
                rw [hq] at hi
                cases hi
                rw [List.getElem?_map] at hx
                cases hq2 : q[j]? with
                | none => rw [hq2] at hx; cases hx
                | some z =>
                  rw [hq2] at hx
                  cases hx
                  obtain ⟨u, u1, u2⟩ := hr i q j z hq hq2
                  exact ⟨u, u1, key z u u2⟩
    · exact fun k => Iff.rfl
    · intro b1 b2 x1 x2 g cap1 cap2 h1 h2 h3 h4
      change (m' b1).live = some x1 at h1
      change (m' b2).live = some x2 at h2
      by_cases e1 : b1 = b
      · subst e1; rw [hmb] at h1; cases h1
      · by_cases e2 : b2 = b
        · subst e2; rw [hmb] at h2; cases h2
        · obtain ⟨y1, h1, _⟩ := hlv b1 x1 e1 h1
          obtain ⟨y2, h2, _⟩ := hlv b2 x2 e2 h2
          exact R.inj b1 b2 y1 y2 g cap1 cap2 h1 h2 h3 h4
    · exact R.om
    · exact R.fr
    · exact R.bs
    · exact R.fb
    · exact R.bw
  · exact ⟨c, rfl, rfl, Cx.le.refl c, R⟩
theorem Rel.frzL (l : List Id) : ∀ {σ : St} {c : Cx}, Rel w0 foot omut σ tmps c → ∃ d : Cx, d.w = c.w ∧ d.base = c.base ∧ c.le d ∧ Rel w0 foot omut (σ.frzL l) tmps d := by
  induction l with
  | nil => intro σ c R; exact ⟨c, rfl, rfl, Cx.le.refl c, R⟩
  | cons b l ih =>
    intro σ c R
    obtain ⟨d, h1, h2, h3, h4⟩ := R.frz b
    obtain ⟨d', g1, g2, g3, g4⟩ := ih h4
    exact ⟨d', g1.trans h1, g2.trans h2, h3.trans g3, g4⟩
end
/-- What is told of a state may be told otherwise: rows given up, nil rows as own ones. -/
def Gh (σ τ : St) : Prop := ∀ (w0 : World) (foot omut : Nat → Prop) (tmps : Array Value) (c : Cx), Rel w0 foot omut σ tmps c → ∃ d : Cx, d.w = c.w ∧ d.base = c.base ∧ c.le d ∧ Rel w0 foot omut τ tmps d
theorem Gh.refl (σ : St) : Gh σ σ := fun _ _ _ _ c R => ⟨c, rfl, rfl, Cx.le.refl c, R⟩
theorem Gh.trans {σ τ υ : St} (h : Gh σ τ) (k : Gh τ υ) : Gh σ υ := fun w0 foot omut tmps c R => by
  obtain ⟨d, h1, h2, h3, h4⟩ := h w0 foot omut tmps c R
  obtain ⟨d', g1, g2, g3, g4⟩ := k w0 foot omut tmps d h4
  exact ⟨d', g1.trans h1, g2.trans h2, h3.trans g3, g4⟩
theorem Gh.frz (σ : St) (l : List Id) : Gh σ (σ.frzL l) := fun _ _ _ _ _ R => R.frzL l
/-- A region, in the text's order; ahead of each operation rows may be given up. -/
def wpF (S : Steps') (ops : List Oper) : List Oper → St → (St → Prop) → Prop
  | [], σ, K => K σ
  | o :: os, σ, K => ∃ τ e, Gh σ τ ∧ StepG S ops τ o e ∧ wpF S ops os (τ.app o.dst e) K
/-- A region that draws: in the text's order, with a book of what was read and written. -/
def wpD (S : Steps') (ops : List Oper) : List Oper → List (List Id × List Id) → St → (List (List Id × List Id) → St → Prop) → Prop
  | [], log, σ, K => K log σ
  | o :: os, log, σ, K => ∃ e, StepG S ops σ o e ∧ wpD S ops os (log ++ [(refsOf σ o, e.wr.map (·.1))]) (σ.app o.dst e) K
def okLog (ops : List Oper) (log : List (List Id × List Id)) : Prop := ∀ i j p q, i < j → log[i]? = some p → log[j]? = some q → anc ops j i = true ∨ memOk p.1 p.2 q.1 q.2
def wpC (S : Steps') : Code → (Exit → St → Prop) → St → Prop
  | .skip, Q, σ => Q .normal σ
  | .label _, Q, σ => Q .normal σ
  | .seq a b, Q, σ => wpC S a (fun e τ => match e with | .normal => wpC S b Q τ | e => Q e τ) σ
  | .cond x a b, Q, σ => ∃ t, σ.ev x = .bool t ∧ (if t = true then wpC S a Q σ else wpC S b Q σ)
  | .block id c, Q, σ => wpC S c (fun e τ => match e with | .exit j => if j = id then Q .normal τ else Q (.exit j) τ | e => Q e τ) σ
  | .exit id, Q, σ => Q (.exit id) σ
  | .ret, Q, σ => Q .ret σ
  | .region _ ops false, Q, σ => wpF S ops.toList ops.toList σ (Q .normal)
  | .region _ ops true, Q, σ => statOk ops.toList = true ∧ ∃ υ, Gh σ υ ∧ wpD S ops.toList ops.toList [] υ (fun log τ => okLog ops.toList log ∧ Q .normal τ)
  | .loop c, Q, σ => ∃ (I : Nat → St → Prop) (n : Nat), I n σ ∧ ∀ n σ, I n σ → wpC S c (fun e τ => match e with | .normal => ∃ m, m < n ∧ I m τ | e => Q e τ) σ
  | .scope c, Q, σ => wpC S c (fun e τ => match e with | .goto _ => False | e => Q e τ) σ
  | _, _, _ => False
/-- All slots that a text writes lie below N. -/
def dstOk (N : Nat) : Code → Bool
  | .region _ ops _ => ops.all fun o => match o.dst with | some d => decide (d < N) | none => true
  | .seq a b => dstOk N a && dstOk N b
  | .cond _ a b => dstOk N a && dstOk N b
  | .block _ c => dstOk N c
  | .loop c => dstOk N c
  | .scope c => dstOk N c
  | _ => true
section
variable {P : Program} {w0 : World} {foot omut : Nat → Prop} {N : Nat} {S : Steps'}
theorem dst_region {id : Nat} {ops : Array Oper} {b : Bool} (h : dstOk N (.region id ops b) = true) (j d : Nat) (hj : (ops[j]?).bind (fun o : Oper => o.dst) = some d) : d < N := by
  simp only [dstOk] at h
  cases ho : ops[j]? with
  | none => rw [ho] at hj; cases hj
  | some o =>
    rw [ho] at hj
    simp only [Option.bind_some] at hj
    have := Array.all_eq_true'.1 h o (Array.mem_of_getElem? ho)
    rw [hj] at this
    simpa using this
theorem wpF_sound (hS : Good P w0 foot omut N S) {ops : Array Oper} (hd : ∀ (j d : Nat), (ops[j]?).bind (fun o : Oper => o.dst) = some d → d < N) {K : St → Prop} {Q : Exit → Act → World → Prop} {base : Nat} {ds : List Deferred}
    (cb : Cx) (hQ : ∀ σ (a : Act) (c : Cx), K σ → cb.le c → c.base = base → a.defers = ds → a.tmps.size = N → Rel w0 foot omut σ a.tmps c → Q .normal a c.w) : ∀ (n : Nat) (os : List Oper) (σ : St) (c : Cx) (a : Act), os = ops.toList.drop n → wpF S ops.toList os σ K → Rel w0 foot omut σ a.tmps c → cb.le c → c.base = base → a.defers = ds → a.tmps.size = N →
    wpOps P ops Q ((List.range ops.size).drop n) a c.w := by
  intro n os
  induction os generalizing n with
  | nil =>
    intro σ c a hos h R hcb hb hds hN
    have hn : ops.size ≤ n := by
      have := congrArg List.length hos
      simp at this
      omega
    rw [List.drop_eq_nil_of_le (by simpa using hn)]
    exact hQ σ a c h hcb hb hds hN R
  | cons o os ih =>
    intro σ c a hos h R hcb hb hds hN
    have hn : n < ops.size := by
      have := congrArg List.length hos
      simp at this
      omega
    have hi : ops[n]? = some o := by
      have : ops.toList[n]? = some o := by
        have h2 := congrArg (fun l => l[0]?) hos
        simp only [List.getElem?_cons_zero, List.getElem?_drop, Nat.add_zero] at h2
        exact h2.symm
      simpa using this
    have hos' : os = ops.toList.drop (n + 1) := by
      have := congrArg List.tail hos
      simpa using this
    have hr : (List.range ops.size).drop n = n :: (List.range ops.size).drop (n + 1) := by
      rw [List.drop_eq_getElem_cons (by simpa using hn)]
      simp
    rw [hr, wpOps_cons]
    obtain ⟨τ, e, hg, h1, h2⟩ := h
    obtain ⟨c', f1, f2, f3, f4⟩ := hg _ _ _ _ _ R
    rw [← f1]
    exact wpOp_step hS hi f4 hN hd h1 (fun a' d p1 p2 p3 p4 p5 => ih (n + 1) _ d a' hos' h2 p5 (hcb.trans (f3.trans p2)) (p1.trans (f2.trans hb)) (p3.trans hds) p4)
/-- What a region that draws leaves behind: the effects, one by one. -/
theorem wpD_trace {ops : List Oper} {K : List (List Id × List Id) → St → Prop} {σ : St} : ∀ (os : List Oper) (done : List (Oper × Eff)) (log : List (List Id × List Id)) (τ : St), τ = foldD 0 done (fun _ => true) σ → log.length = done.length → wpD S ops os log τ K →
    ∃ es : List (Oper × Eff), es.map (·.1) = os ∧ (∀ i p, es[i]? = some p → StepG S ops (foldD 0 (done ++ es) (fun j => decide (j < done.length + i)) σ) p.1 p.2) ∧
      K (log ++ (es.zipIdx.map fun (p : (Oper × Eff) × Nat) => (refsOf (foldD 0 (done ++ es) (fun j => decide (j < done.length + p.2)) σ) p.1.1, p.1.2.wr.map (·.1)))) (foldD 0 (done ++ es) (fun _ => true) σ) := by
  have hall : ∀ (l : List (Oper × Eff)) (m : List (Oper × Eff)) (k : Nat) (s : St), foldD k (l ++ m) (fun j => decide (j < k + l.length)) s = foldD k l (fun _ => true) s := by
    intro l m k s
    rw [foldD_append, foldD_none m _ _ _ (fun j hj => by simp; omega)]
    exact foldD_ext l k _ _ s (fun j h1 h2 => by simp; omega)
  have hsnoc : ∀ (l : List (Oper × Eff)) (p : Oper × Eff) (k : Nat) (s : St), foldD k (l ++ [p]) (fun _ => true) s = (foldD k l (fun _ => true) s).app p.1.dst p.2 := by
    intro l
    induction l with
    | nil => intro p k s; rfl
    | cons q l ih => intro p k s; simp only [List.cons_append, foldD]; exact ih p (k + 1) _
  intro os
  induction os with
  | nil =>
    intro done log τ hτ hlog h
    refine ⟨[], rfl, by simp, ?_⟩
    simp only [List.append_nil, List.zipIdx_nil, List.map_nil]
    rw [← hτ]
    exact h
  | cons o os ih =>
    intro done log τ hτ hlog h
    obtain ⟨e, h1, h2⟩ := h
    obtain ⟨es, e1, e2, e3⟩ := ih (done ++ [(o, e)]) (log ++ [(refsOf τ o, e.wr.map (·.1))]) (τ.app o.dst e) (by rw [hsnoc, hτ]) (by simp [hlog]) h2
    have hassoc : done ++ [(o, e)] ++ es = done ++ (o, e) :: es := by simp
    have hbegin : foldD 0 (done ++ (o, e) :: es) (fun j => decide (j < done.length + 0)) σ = τ := by
      rw [hτ]
      have := hall done ((o, e) :: es) 0 σ
      simpa using this
    refine ⟨(o, e) :: es, by simp [e1], fun i p hi => ?_, ?_⟩
    · cases i with
      | zero =>
        cases hi
        rw [hbegin]
        exact h1
      | succ i =>
        have := e2 i p (by simpa using hi)
        rw [hassoc] at this
        have e5 : (done ++ [(o, e)]).length + i = done.length + (i + 1) := by simp; omega
        rw [e5] at this
        exact this
    · rw [hassoc] at e3
      have e6 : log ++ [(refsOf τ o, e.wr.map (·.1))] ++ (es.zipIdx.map fun (p : (Oper × Eff) × Nat) => (refsOf (foldD 0 (done ++ (o, e) :: es) (fun j => decide (j < (done ++ [(o, e)]).length + p.2)) σ) p.1.1, p.1.2.wr.map (·.1))) =
          log ++ (((o, e) :: es).zipIdx.map fun (p : (Oper × Eff) × Nat) => (refsOf (foldD 0 (done ++ (o, e) :: es) (fun j => decide (j < done.length + p.2)) σ) p.1.1, p.1.2.wr.map (·.1))) := by
        rw [List.zipIdx_cons, List.map_cons, List.append_assoc, List.singleton_append]
        simp only
        rw [hbegin]
        congr 2
        rw [Nat.zero_add, List.zipIdx_succ, List.map_map]
        refine List.map_congr_left (fun p _ => ?_)
        simp only [Function.comp]
        have e5 : (done ++ [(o, e)]).length + p.2 = done.length + (p.2 + 1) := by simp; omega
        rw [e5]
      rw [← e6]
      exact e3
end
end Go.Proofs.Ev
namespace Go.Proofs.Ev
open Go Go.RowKit
set_option linter.unusedVariables false
set_option linter.unusedSimpArgs false
section
variable {P : Program} {w0 : World} {foot omut : Nat → Prop} {N : Nat} {S : Steps'}
/-- What a text comes to, for real. -/
def Ends (w0 : World) (foot omut : Nat → Prop) (N base : Nat) (ds : List Deferred) (cb : Cx) (Q : Exit → St → Prop) : Exit → Act → World → Prop := fun e a w => ∃ τ d, d.w = w ∧ cb.le d ∧ Q e τ ∧ Rel w0 foot omut τ a.tmps d ∧ a.tmps.size = N ∧ d.base = base ∧ a.defers = ds
theorem wpC_sound (hS : Good P w0 foot omut N S) (hmix : P.follows .mixedOrders = true) {base : Nat} {ds : List Deferred} (cb : Cx) : ∀ (code : Code), dstOk N code = true → ∀ (Q : Exit → St → Prop) (σ : St), wpC S code Q σ → ∀ (a : Act) (c : Cx), Rel w0 foot omut σ a.tmps c → cb.le c → a.tmps.size = N → c.base = base → a.defers = ds →
    code.wp P (Ends w0 foot omut N base ds cb Q) a c.w := by
  intro code
  induction code with
  | skip => intro hd Q σ h a c R hcb hN hb hds; exact wp_skip ⟨σ, c, rfl, hcb, h, R, hN, hb, hds⟩
  | label l => intro hd Q σ h a c R hcb hN hb hds; exact wp_label ⟨σ, c, rfl, hcb, h, R, hN, hb, hds⟩
  | exit id => intro hd Q σ h a c R hcb hN hb hds; exact wp_exit ⟨σ, c, rfl, hcb, h, R, hN, hb, hds⟩
  | ret => intro hd Q σ h a c R hcb hN hb hds; exact wp_ret ⟨σ, c, rfl, hcb, h, R, hN, hb, hds⟩
  | seq x y ihx ihy =>
    intro hd Q σ h a c R hcb hN hb hds
    simp only [dstOk, Bool.and_eq_true] at hd
    refine wp_seq (wp_mono (ihx hd.1 _ σ h a c R hcb hN hb hds) ?_)
    rintro e a' w' ⟨τ, d, hw, hcb', hq, R', hN', hb', hds'⟩
    subst hw
    cases e with
    | normal => exact ihy hd.2 Q τ hq a' d R' hcb' hN' hb' hds'
    | _ => exact ⟨τ, d, rfl, hcb', hq, R', hN', hb', hds'⟩
  | cond x y z ihy ihz =>
    intro hd Q σ h a c R hcb hN hb hds
    simp only [dstOk, Bool.and_eq_true] at hd
    obtain ⟨t, ht, hq⟩ := h
    have hv := R.ev (a := a) rfl x
    rw [ht] at hv
    generalize hu : a.eval x = u at hv
    cases hv
    cases t with
    | true => exact wp_cond_true hu (ihy hd.1 Q σ hq a c R hcb hN hb hds)
    | false => exact wp_cond_false hu (ihz hd.2 Q σ hq a c R hcb hN hb hds)
  | block id x ih =>
    intro hd Q σ h a c R hcb hN hb hds
    refine wp_block (wp_mono (ih hd _ σ h a c R hcb hN hb hds) ?_)
    rintro e a' w' ⟨τ, d, hw, hcb', hq, R', hN', hb', hds'⟩
    cases e with
    | exit j =>
      simp only at hq
      show if j = id then _ else _
      by_cases hj : j = id
      · rw [if_pos hj] at hq ⊢; exact ⟨τ, d, hw, hcb', hq, R', hN', hb', hds'⟩
      · rw [if_neg hj] at hq ⊢; exact ⟨τ, d, hw, hcb', hq, R', hN', hb', hds'⟩
    | _ => exact ⟨τ, d, hw, hcb', hq, R', hN', hb', hds'⟩
  | loop x ih =>
    intro hd Q σ h a c R hcb hN hb hds
    obtain ⟨I, n, h0, hr⟩ := h
    refine wp_loop_ghost (fun n a w => ∃ τ d, d.w = w ∧ cb.le d ∧ I n τ ∧ Rel w0 foot omut τ a.tmps d ∧ a.tmps.size = N ∧ d.base = base ∧ a.defers = ds) n ⟨σ, c, rfl, hcb, h0, R, hN, hb, hds⟩ ?_
    rintro n a w ⟨τ, d, hw, hcb', hI, R', hN', hb', hds'⟩
    subst hw
    refine wp_mono (ih hd _ τ (hr n τ hI) a d R' hcb' hN' hb' hds') ?_
    rintro e a' w' ⟨τ', d', hw', hcb2, hq, R2, hN2, hb2, hds2⟩
    cases e with
    | normal =>
      obtain ⟨m, hm, hI'⟩ := hq
      exact ⟨m, hm, τ', d', hw', hcb2, hI', R2, hN2, hb2, hds2⟩
    | _ => exact ⟨τ', d', hw', hcb2, hq, R2, hN2, hb2, hds2⟩
  | scope x ih =>
    intro hd Q σ h a c R hcb hN hb hds
    refine wp_scope_straight (wp_mono (ih hd _ σ h a c R hcb hN hb hds) ?_)
    rintro e a' w' ⟨τ, d, hw, hcb', hq, R', hN', hb', hds'⟩
    cases e with
    | goto l => exact hq.elim
    | _ => exact ⟨τ, d, hw, hcb', hq, R', hN', hb', hds'⟩
  | region id ops draw =>
    intro hd Q σ h a c R hcb hN hb hds
    cases draw with
    | false =>
      have hfin : ∀ (τ : St) (a : Act) (d : Cx), Q .normal τ → cb.le d → d.base = base → a.defers = ds → a.tmps.size = N → Rel w0 foot omut τ a.tmps d → Ends w0 foot omut N base ds cb Q .normal a d.w := fun τ a d hq h0 h1 h2 h3 h4 => ⟨τ, d, rfl, h0, hq, h4, h3, h1, h2⟩
      have := wpF_sound hS (dst_region hd) (Q := Ends w0 foot omut N base ds cb Q) cb hfin 0 ops.toList σ c a (by simp) h R hcb hb hds hN
      exact wp_region (by simpa using this)
    | true =>
      obtain ⟨hst, υ, hg, h⟩ := h
      obtain ⟨c', f1, f2, f3, f4⟩ := hg _ _ _ _ _ R
      obtain ⟨es, e1, e2, e3, e4⟩ := wpD_trace ops.toList [] [] υ rfl rfl h
      simp only [List.nil_append, List.length_nil, Nat.zero_add] at e2 e3 e4
      refine wp_region_any hmix ?_
      have hdrew : ({ c'.w with drawn := c'.w.drawn + 1 } : World) = c'.w.drew := rfl
      let d : Cx := { c' with w := c'.w.drew }
      have hle : c'.le d := ⟨rfl, Nat.le_refl _, fun k _ hm => ⟨hm, rfl⟩, fun _ => Nat.le_refl _, fun _ _ => ⟨rfl, rfl⟩⟩
      have hRd : Rel w0 foot omut υ a.tmps d := by
        constructor
        · exact fun i => (f4.tm i).le hle
        · exact f4.ver
        · exact fun b x hx => (f4.mem b x hx).le hle rfl (fun _ _ _ => rfl)
        · exact f4.mt
        · exact f4.inj
        · exact f4.om
        · exact f4.fr.trans ⟨rfl, rfl, rfl, Nat.le_refl _, fun _ _ _ => rfl⟩
        · exact f4.bs
        · exact f4.fb
        · exact f4.bw
      have hlen : es.length = ops.size := by have := congrArg List.length e1; simpa using this
      rw [← f1, hdrew]
      refine draw_sound hS hst (dst_region hd) (base := base) (ds := ds) (σ := υ) es e1 e2 ?_ cb ?_ ops.size _ a d (by simp) (by omega) ?_ (hcb.trans (f3.trans hle)) (f2.trans hb) hds hN ?_
      · intro i j p q hij hp hq
        have hz : ∀ (k : Nat) (r : Oper × Eff), es[k]? = some r → (es.zipIdx.map fun (p : (Oper × Eff) × Nat) => (refsOf (foldD 0 es (fun j => decide (j < p.2)) υ) p.1.1, p.1.2.wr.map (·.1)))[k]? = some (refsOf (foldD 0 es (fun j => decide (j < k)) υ) r.1, r.2.wr.map (·.1)) := by
          intro k r hr
          rw [List.getElem?_map, List.getElem?_zipIdx, hr]
          simp
        exact e3 i j _ _ hij (hz i p hp) (hz j q hq)
      · exact fun a d h0 h1 h2 h3 h4 => ⟨_, d, rfl, h0, e4, h4, h3, h1, h2⟩
      · intro i o e hi _ _ _
        simp [Array.getD_eq_getD_getElem?, Array.getElem?_replicate] at hi
        split at hi <;> simp_all
      · rw [foldD_none es 0 _ _ (fun j _ => by simp [Array.getD_eq_getD_getElem?, Array.getElem?_replicate]; split <;> simp)]
        exact hRd
  | rangeFunc f ps x y ihx ihy => intro hd Q σ h; exact h.elim
  | goto l => intro hd Q σ h; exact h.elim
  | refuse why => intro hd Q σ h; exact h.elim
end
end Go.Proofs.Ev
namespace Go.Proofs.Ev
open Go Go.RowKit
set_option linter.unusedVariables false
set_option linter.unusedSimpArgs false
def okF (P : Program) (f : Nat) : Bool := match P.funcs[f]? with | some fn => (fn.name != "runtime.NumGoroutine") && fn.body.isSome | none => false
def m0 (bs : List Cont) : Id → Blk
  | .ext k => ⟨0, bs[k]?⟩
  | .loc _ _ => ⟨0, none⟩
def m1 (bs nb : List Cont) : Id → Blk
  | .ext k => ⟨0, bs[k]?⟩
  | .loc j 0 => ⟨1, nb[j]?⟩
  | .loc _ (_ + 1) => ⟨1, none⟩
def stM (m : Id → Blk) : St := ⟨fun _ => .dead, m⟩
/-- What lasts while a program runs: what is asked of the world (the library's tables). -/
class Tbl (P : Program) where
  T : World → Prop
/-- It is so, and stays so, whatever is done to the blocks named and to new ones. -/
def keepsF (T : World → Prop) (w : World) (foot : Nat → Prop) : Prop := ∀ w' : World, (∀ k, k < w.heap.size → ¬ foot k → w'.heap[k]? = w.heap[k]?) → T w'
/-- What a function does: called with these values and these blocks, it answers this, with these new blocks, and leaves the blocks so. -/
def Den (P : Program) [Tbl P] (f : Nat) (args : List PV) (bs : List Cont) (r : PV) (nb bs' : List Cont) : Prop :=
  ∀ (us : List Value) (foot omut : Nat → Prop) (c : Cx), keepsF (Tbl.T P) c.w foot → c.base = c.w.heap.size → args.length = us.length → (∀ (i : Nat) (x : PV) (u : Value), args[i]? = some x → us[i]? = some u → RelV c x u) → Rel c.w foot omut (stM (m0 bs)) #[] c →
    Calls P f us.toArray c.w fun e w' => ∃ u d, e = .returned u ∧ d.w = w' ∧ d.base = c.base ∧ c.le d ∧ RelV d r u ∧ Rel c.w foot omut (stM (m1 bs' nb)) #[] d
def posOf : List (Id × Nat) → Id → Nat → Option Nat
  | [], _, _ => none
  | p :: l, b, v => if p.1 = b ∧ p.2 = v then some 0 else (posOf l b v).map (· + 1)
def pass1 (ids : List (Id × Nat)) : PV → Option PV
  | .ptr b v i o => (posOf ids b v).map fun k => .ptr (.ext k) 0 i o
  | .rp row o => some (.rp row o)
  | x => if x.sf = true then some x else none
def pass1L (ids : List (Id × Nat)) : List PV → Option (List PV)
  | [] => some []
  | x :: l => (pass1 ids x).bind fun y => (pass1L ids l).map (y :: ·)
def passV (ids : List (Id × Nat)) : PV → Option PV
  | .fn f caps => (pass1L ids caps).map (.fn f)
  | .agg cs => (pass1L ids cs).map .agg
  | x => pass1 ids x
def passL (ids : List (Id × Nat)) : List PV → Option (List PV)
  | [] => some []
  | x :: l => (passV ids x).bind fun y => (passL ids l).map (y :: ·)
def flatC : Cont → Bool
  | .rows _ _ _ rs => rs.all fun r => r.all PV.sf
  | .iter _ _ => false
def ren1 (m : Id → Blk) (dst : Nat) : PV → PV
  | .own (.loc j 0) 1 n => .own (.loc dst j) ((m (.loc dst j)).ver + 1) n
  | .ptr (.loc j 0) 1 i o => .ptr (.loc dst j) ((m (.loc dst j)).ver + 1) i o
  | x => x
def renA (m : Id → Blk) (dst : Nat) : PV → PV
  | .agg cs => .agg (cs.map (ren1 m dst))
  | x => ren1 m dst x
def renR (m : Id → Blk) (dst : Nat) : PV → PV
  | .tup vs => .tup (vs.map (renA m dst))
  | x => renA m dst x
def res1 (n : Nat) : PV → Bool
  | .own (.loc j 0) 1 _ => decide (j < n)
  | .ptr (.loc j 0) 1 _ _ => decide (j < n)
  | .rp _ _ => true
  | x => x.sf
def resA (n : Nat) : PV → Bool
  | .agg cs => cs.all (res1 n)
  | x => res1 n x
def resR (n : Nat) : PV → Bool
  | .tup vs => vs.all (resA n)
  | x => resA n x
def callEff (m : Id → Blk) (dst : Nat) (ids : List (Id × Nat)) (r : PV) (nb bs' : List Cont) : Eff :=
  ⟨renR m dst r, [], ((ids.zip bs').map fun p => (p.1.1, ⟨p.1.2, some p.2⟩)) ++ (nb.zipIdx.map fun p => (Id.loc dst p.2, ⟨(m (.loc dst p.2)).ver + 1, some p.1⟩))⟩
/-- A call, as it is told by what the function does. -/
def CallE (P : Program) [Tbl P] (σ : St) (dst : Nat) (f : Nat) (args : List PV) (e : Eff) : Prop :=
  ∃ (ids : List (Id × Nat)) (args' : List PV) (bs : List Cont) (r : PV) (nb bs' : List Cont), okF P f = true ∧ passL ids args = some args' ∧ bs.length = ids.length ∧ bs'.length = ids.length ∧ (ids.map (·.1)).Nodup ∧
    (∀ (k : Nat) (p : Id × Nat), ids[k]? = some p → (σ.m p.1).ver = p.2 ∧ (σ.m p.1).live = bs[k]? ∧ ∀ j, p.1 ≠ .loc dst j) ∧ (bs.all flatC) = true ∧ (bs'.all flatC) = true ∧ (nb.all flatC) = true ∧ resR nb.length r = true ∧ Den P f args' bs r nb bs' ∧ e = callEff σ.m dst ids r nb bs'
/-- A nil row, as one without cells. -/
def nz1 : PV → PV
  | .nils => .ro []
  | x => x
def nzA : PV → PV
  | .agg cs => .agg (cs.map nz1)
  | x => nz1 x
theorem nz1_rel {c : Cx} {x : PV} {u : Value} (h : RelV c x u) : RelV c (nz1 x) u := by
  unfold nz1
  split
  · cases h
    exact .ro [] none 0 1 (fun _ _ => .bool false) (Nat.le_refl _) (fun _ => ⟨rfl, rfl⟩) (by simp) (by simp) (by simp) (by simp) (by simp)
  · exact h
theorem nzA_rel {c : Cx} {x : PV} {u : Value} (h : RelV c x u) : RelV c (nzA x) u := by
  unfold nzA
  split
  · rename_i cs
    cases h with
    | agg _ us hl hr =>
      refine .agg _ us (by simpa using hl) (fun i y u hy hu => ?_)
      rw [List.getElem?_map] at hy
      cases hq : cs[i]? with
      | none => rw [hq] at hy; cases hy
      | some q => rw [hq] at hy; cases hy; exact nz1_rel (hr i q u hq hu)
  · exact nz1_rel h
/-- An operation's effect; what it gives may be told more weakly. -/
def opS (P : Program) (σ : St) (o : Oper) (e : Eff) : Prop := ∃ e0, opF P σ o = some e0 ∧ (e = e0 ∨ e = ⟨nzA e0.v, e0.lk, e0.wr⟩)
section
variable {P : Program} {w0 : World} {foot omut : Nat → Prop} {σ : St} {tmps : Array Value} {c : Cx}
/-- A value that names no block means the same wherever nothing of it may be written. -/
theorem RelV.flat {c d : Cx} (hw : d.w = c.w) (hmu : ∀ k, ¬ c.mu k → ¬ d.mu k) {x : PV} {u : Value} (h : RelV c x u) : x.sf = true ∨ (∃ row o, x = .rp row o) → RelV d x u := by
  induction h with
  | int k n => intro _; exact .int k n
  | bool b => intro _; exact .bool b
  | str s => intro _; exact .str s
  | nilp => intro _; exact .nilp
  | nils => intro _; exact .nils
  | nili => intro _; exact .nili
  | nilf => intro _; exact .nilf
  | ife t u => intro _; exact .ife t u
  | re ad cap => intro _; exact .re ad cap
  | fn f caps us hl h ih =>
    intro hs
    rcases hs with hs | ⟨_, _, e⟩
    · cases caps with
      | nil => exact .fn f [] us hl (fun i x u hx => by simp at hx)
      | cons _ _ => simp [PV.sf] at hs
    · cases e
  | rp row o ad f hs hm hf hb hc h ih =>
    intro _
    exact .rp row o ad f hs (hmu _ hm) hf (by rw [hw]; exact hb) (fun j x hx => by rw [hw]; exact hc j x hx) (fun j x hx => ih j x hx (.inl (hf j x hx)))
  | ro rows A cap sz f hn hA hz hb hf hc h ih =>
    intro _
    exact .ro rows A cap sz f hn hA hz (fun ad e hne => by obtain ⟨a1, a2, a3⟩ := hb ad e hne; exact ⟨a1, hmu _ a2, by rw [hw]; exact a3⟩) hf (fun ad i row j x e p q => by rw [hw]; exact hc ad i row j x e p q) (fun i row j x p q => ih i row j x p q (.inl (hf i row j x p q)))
  | _ => intro hs; rcases hs with hs | ⟨_, _, e⟩ <;> first | (simp [PV.sf] at hs) | cases e
theorem posOf_get {ids : List (Id × Nat)} {b : Id} {v k : Nat} (h : posOf ids b v = some k) : ids[k]? = some (b, v) := by
  induction ids generalizing k with
  | nil => cases h
  | cons p l ih =>
    simp only [posOf] at h
    split at h
    · rename_i hc
      cases h
      obtain ⟨rfl, rfl⟩ := hc
      rfl
    · cases hq : posOf l b v with
      | none => rw [hq] at h; cases h
      | some q => rw [hq] at h; cases h; simpa using ih hq
/-- The context in which a called function begins. -/
def cx0 (c : Cx) (ids : List (Id × Nat)) : Cx where
  w := c.w
  base := c.w.heap.size
  mu := c.mu
  at_ := fun i => match i with
    | .ext k => (ids[k]?).bind fun p => c.at_ p.1
    | .loc _ _ => none
  sz := fun i => match i with
    | .ext k => match ids[k]? with
      | some p => c.sz p.1
      | none => 0
    | .loc _ _ => 0
  ver := fun _ => 0
theorem pass1_rel {ids : List (Id × Nat)} (hids : ∀ (k : Nat) (p : Id × Nat), ids[k]? = some p → c.ver p.1 = p.2) {x y : PV} {u : Value} (h : RelV c x u) (hp : pass1 ids x = some y) : RelV (cx0 c ids) y u := by
  unfold pass1 at hp
  split at hp
  · rename_i b v i o
    cases hk : posOf ids b v with
    | none => rw [hk] at hp; cases hp
    | some k =>
      rw [hk] at hp
      cases hp
      have hg := posOf_get hk
      have hv := hids k _ hg
      cases h with
      | ptr b v i o u h1 hv' h =>
        refine .ptr _ _ _ _ _ h1 (Nat.zero_le _) (fun _ => ?_)
        obtain ⟨g, cap, a1, a2⟩ := h hv.symm
        refine ⟨g, cap, ?_, ?_⟩
        · simp [cx0, hg, a1]
        · simp only [cx0, hg]; exact a2
  · cases hp
    exact RelV.flat (c := c) (d := cx0 c ids) rfl (fun _ hm => hm) h (.inr ⟨_, _, rfl⟩)
  · split at hp
    · rename_i hs
      cases hp
      exact RelV.flat (c := c) (d := cx0 c ids) rfl (fun _ hm => hm) h (.inl hs)
    · cases hp
theorem pass1L_get {ids : List (Id × Nat)} : ∀ {xs ys : List PV}, pass1L ids xs = some ys → ys.length = xs.length ∧ ∀ (i : Nat) (y : PV), ys[i]? = some y → ∃ x, xs[i]? = some x ∧ pass1 ids x = some y := by
  intro xs
  induction xs with
  | nil => intro ys h; cases h; exact ⟨rfl, by simp⟩
  | cons x xs ih =>
    intro ys h
    obtain ⟨y, hy, h⟩ := bind_some h
    obtain ⟨zs, hz, rfl⟩ := map_some h
    obtain ⟨i1, i2⟩ := ih hz
    refine ⟨by simp [i1], fun i q hq => ?_⟩
    cases i with
    | zero => cases hq; exact ⟨x, rfl, hy⟩
    | succ i => simpa using i2 i q (by simpa using hq)
theorem passV_rel {ids : List (Id × Nat)} (hids : ∀ (k : Nat) (p : Id × Nat), ids[k]? = some p → c.ver p.1 = p.2) {x y : PV} {u : Value} (h : RelV c x u) (hp : passV ids x = some y) : RelV (cx0 c ids) y u := by
  unfold passV at hp
  split at hp
  · obtain ⟨ys, hy, rfl⟩ := map_some hp
    obtain ⟨i1, i2⟩ := pass1L_get hy
    cases h with
    | fn f caps us hl h =>
      refine .fn _ _ us (i1.trans hl) (fun i q u hq hu => ?_)
      obtain ⟨x, hx, hxq⟩ := i2 i q hq
      exact pass1_rel hids (h i x u hx hu) hxq
  · obtain ⟨ys, hy, rfl⟩ := map_some hp
    obtain ⟨i1, i2⟩ := pass1L_get hy
    cases h with
    | agg cs us hl h =>
      refine .agg _ us (i1.trans hl) (fun i q u hq hu => ?_)
      obtain ⟨x, hx, hxq⟩ := i2 i q hq
      exact pass1_rel hids (h i x u hx hu) hxq
  · exact pass1_rel hids h hp
theorem passL_get {ids : List (Id × Nat)} : ∀ {xs ys : List PV}, passL ids xs = some ys → ys.length = xs.length ∧ ∀ (i : Nat) (y : PV), ys[i]? = some y → ∃ x, xs[i]? = some x ∧ passV ids x = some y := by
  intro xs
  induction xs with
  | nil => intro ys h; cases h; exact ⟨rfl, by simp⟩
  | cons x xs ih =>
    intro ys h
    obtain ⟨y, hy, h⟩ := bind_some h
    obtain ⟨zs, hz, rfl⟩ := map_some h
    obtain ⟨i1, i2⟩ := ih hz
    refine ⟨by simp [i1], fun i q hq => ?_⟩
    cases i with
    | zero => cases hq; exact ⟨x, rfl, hy⟩
    | succ i => simpa using i2 i q (by simpa using hq)
/-- A block whose cells name no block, seen elsewhere. -/
theorem RelB.move {c d : Cx} {foot foot' : Nat → Prop} {b b' : Id} {x : Cont} (h : RelB c foot b x) (hf : flatC x = true) (hat : d.at_ b' = c.at_ b) (hsz : d.sz b' = c.sz b) (hw : d.w = c.w) (hmu : ∀ k, ¬ c.mu k → ¬ d.mu k) (ho : ∀ g cap, c.at_ b = some (g, cap) → d.base ≤ g ∨ foot' g) : RelB d foot' b' x := by
  cases h with
  | none fl e sz hz h0 ha => exact .none fl e sz (hsz.trans hz) h0 (hat.trans ha)
  | rows fl e sz rs g cap cur hz h0 ha ho' hh hn hm hs hl h1 hr =>
    refine .rows fl e sz rs g cap cur (hsz.trans hz) h0 (hat.trans ha) (ho g cap ha) (by rw [hw]; exact hh) hn hm hs hl h1 (fun i row j x p q => ?_)
    obtain ⟨u, u1, u2⟩ := hr i row j x p q
    have hsf : x.sf = true := List.all_eq_true.1 (List.all_eq_true.1 hf row (List.mem_of_getElem? p)) x (List.mem_of_getElem? q)
    exact ⟨u, u1, u2.flat hw hmu (.inl hsf)⟩
  | iter s pos g cap ha ho' hh => simp [flatC] at hf
theorem ren_rel {d : Cx} {m : Id → Blk} {dst n : Nat} (hw : d.w = c.w) (hmu : ∀ k, ¬ c.mu k → ¬ d.mu k) (hv : ∀ b, c.ver b = (match b with | .loc _ _ => 1 | .ext _ => 0)) (hat : ∀ j, j < n → d.at_ (.loc dst j) = c.at_ (.loc j 0) ∧ d.sz (.loc dst j) = c.sz (.loc j 0) ∧ d.ver (.loc dst j) = (m (.loc dst j)).ver + 1) {x : PV} {u : Value} (h : RelV c x u) (hr : res1 n x = true) : RelV d (ren1 m dst x) u := by
  unfold res1 at hr
  split at hr
  · rename_i j k
    have hj : j < n := by simpa using hr
    obtain ⟨a1, a2, a3⟩ := hat j hj
    cases h with
    | own b v k u h1 hv' h =>
      refine .own _ _ _ _ h1 (by rw [a3]; exact Nat.le_refl _) (fun _ => ?_)
      rw [a1]
      exact h (hv (.loc j 0)).symm
  · rename_i j i o
    have hj : j < n := by simpa using hr
    obtain ⟨a1, a2, a3⟩ := hat j hj
    cases h with
    | ptr b v i o u h1 hv' h =>
      refine .ptr _ _ _ _ _ h1 (by rw [a3]; exact Nat.le_refl _) (fun _ => ?_)
      rw [a1, a2]
      exact h (hv (.loc j 0)).symm
  · exact RelV.flat (c := c) (d := d) hw hmu h (.inr ⟨_, _, rfl⟩)
  · have e : ren1 m dst x = x := by
      unfold ren1
      split <;> simp_all [PV.sf]
    rw [e]
    exact RelV.flat (c := c) (d := d) hw hmu h (.inl hr)
theorem renA_rel {d : Cx} {m : Id → Blk} {dst n : Nat} (hw : d.w = c.w) (hmu : ∀ k, ¬ c.mu k → ¬ d.mu k) (hv : ∀ b, c.ver b = (match b with | .loc _ _ => 1 | .ext _ => 0)) (hat : ∀ j, j < n → d.at_ (.loc dst j) = c.at_ (.loc j 0) ∧ d.sz (.loc dst j) = c.sz (.loc j 0) ∧ d.ver (.loc dst j) = (m (.loc dst j)).ver + 1) {x : PV} {u : Value} (h : RelV c x u) (hr : resA n x = true) : RelV d (renA m dst x) u := by
  cases x with
  | agg cs =>
    cases h with
    | agg cs us hl h =>
      refine .agg _ us (by simpa using hl) (fun i y u hy hu => ?_)
      rw [List.getElem?_map] at hy
      cases hq : cs[i]? with
      | none => rw [hq] at hy; cases hy
      | some q =>
        rw [hq] at hy
        cases hy
        exact ren_rel hw hmu hv hat (h i q u hq hu) (List.all_eq_true.1 hr q (List.mem_of_getElem? hq))
  | _ => exact ren_rel hw hmu hv hat h hr
theorem renR_rel {d : Cx} {m : Id → Blk} {dst n : Nat} (hw : d.w = c.w) (hmu : ∀ k, ¬ c.mu k → ¬ d.mu k) (hv : ∀ b, c.ver b = (match b with | .loc _ _ => 1 | .ext _ => 0)) (hat : ∀ j, j < n → d.at_ (.loc dst j) = c.at_ (.loc j 0) ∧ d.sz (.loc dst j) = c.sz (.loc j 0) ∧ d.ver (.loc dst j) = (m (.loc dst j)).ver + 1) {x : PV} {u : Value} (h : RelV c x u) (hr : resR n x = true) : RelV d (renR m dst x) u := by
  cases x with
  | tup cs =>
    cases h with
    | tup cs us hl h =>
      refine .tup _ us (by simpa using hl) (fun i y u hy hu => ?_)
      rw [List.getElem?_map] at hy
      cases hq : cs[i]? with
      | none => rw [hq] at hy; cases hy
      | some q =>
        rw [hq] at hy
        cases hy
        exact renA_rel hw hmu hv hat (h i q u hq hu) (List.all_eq_true.1 hr q (List.mem_of_getElem? hq))
  | _ => exact renA_rel hw hmu hv hat h hr
end
end Go.Proofs.Ev
