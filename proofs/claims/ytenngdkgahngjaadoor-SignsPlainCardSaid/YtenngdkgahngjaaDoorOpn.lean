/- Data that came in, opened: what the model reads of a type is of the kind that the walks speak of. Nothing of the program. -/
import Derived.ChangeArms
import Derived.DataReads
import Derived.DataElems
import Derived.Test.YtenngdkgahngjaaDoorBa
import Derived.SliceStrings
import Derived.ChangeAt
import Derived.WideShapes
import Derived.ChangeShapes
namespace Go.Proofs.YtenngdkgahngjaaDoor.Opn
open Go.ChangeShapes Go.WideShapes Go.ChangeAt Go.RowKit Go.Proofs.YtenngdkgahngjaaDoorW.PrintWords

/-- Whatever is read of type t is of the kind K, and Q holds of it. -/
structure Opn (P : Program) {α : Type} (K : Kd α) (t : TypeId) (Q : α → Prop) : Prop where
  sz : K.sz = P.cellsOf t
  op : ∀ {H : Type} {enc : TypeId × Value → H} {w : World} {base : Nat} {spare : Nat → Bool} {held : Bool} {fuel : Nat} {cs : List Value} {x : DataW H × List MemPlace}, DataW.trod enc P w base spare held fuel t cs = some x → ∃ y, K.K w y cs ∧ Q y
theorem Opn.int {P : Program} {t : TypeId} {k : IntKind} (ht : P.underlying t = some (.int k)) (hc : P.cellsOf t = 1) : Opn P (Kd.int k) t (fun n => (Lit.int k n).wf = true) := by
  refine ⟨hc.symm, fun h => ?_⟩
  obtain ⟨n, hcs, _, hw⟩ := DataW.trod_int ht h
  exact ⟨n, hcs, hw⟩
theorem Opn.i64 {P : Program} {t : TypeId} (ht : P.underlying t = some (.int .i64)) (hc : P.cellsOf t = 1) : Opn P (Kd.int .i64) t Ba.I := by
  refine ⟨hc.symm, fun h => ?_⟩
  obtain ⟨n, hcs, _, hw⟩ := DataW.trod_int ht h
  exact ⟨n, hcs, Ba.I_of_wf hw⟩
theorem Opn.bool {P : Program} {t : TypeId} (ht : P.underlying t = some .bool) (hc : P.cellsOf t = 1) : Opn P Kd.bool t (fun _ => True) := by
  refine ⟨hc.symm, fun h => ?_⟩
  obtain ⟨b, hcs, _⟩ := DataW.trod_bool ht h
  exact ⟨b, hcs, trivial⟩
theorem Opn.string {P : Program} {t : TypeId} (ht : P.underlying t = some .string) (hc : P.cellsOf t = 1) : Opn P Kd.string t (fun s => s.size ≤ maxLen) := by
  refine ⟨hc.symm, fun h => ?_⟩
  obtain ⟨s, hcs, _, hw⟩ := DataW.trod_string ht h
  exact ⟨s, hcs, hw⟩
theorem choose_list {α : Type} (R : Nat → α → Prop) : ∀ (n : Nat), (∀ i, i < n → ∃ y, R i y) → ∃ xs : List α, xs.length = n ∧ ∀ j p, xs[j]? = some p → R j p
  | 0, _ => ⟨[], rfl, fun j p h => by simp at h⟩
  | n + 1, h => by
    obtain ⟨xs, hl, hx⟩ := choose_list R n (fun i hi => h i (by omega))
    obtain ⟨y, hy⟩ := h n (by omega)
    refine ⟨xs ++ [y], by simp [hl], fun j p hj => ?_⟩
    by_cases k : j < n
    · rw [List.getElem?_append_left (by omega)] at hj
      exact hx j p hj
    · rw [List.getElem?_append_right (by omega), hl] at hj
      have hjn : j - n = 0 := by
        have := (List.getElem?_eq_some_iff.1 hj).1
        simp at this
        omega
      rw [hjn] at hj
      obtain rfl : y = p := by simpa using hj
      obtain rfl : j = n := by omega
      exact hy
theorem Opn.rows {P : Program} {α : Type} {K : Kd α} {t e : TypeId} {Q : α → Prop} (ht : P.underlying t = some (.slice e)) (he : Opn P K e Q) {H : Type} {enc : TypeId × Value → H} {w : World} {base : Nat} {spare : Nat → Bool} {held : Bool} {fuel : Nat} {cs : List Value} {x : DataW H × List MemPlace}
    (h : DataW.trod enc P w base spare held fuel t cs = some x) : ∃ A c xs, cs = [.slice A xs.length c] ∧ xs.length ≤ c ∧ K.C w A xs.length xs ∧ (∀ y ∈ xs, Q y) ∧ (xs = [] ∨ ∃ es rs, x.1 = .slice es rs ∧ es.length = xs.length) := by
  rcases DataW.trod_slice ht h with ⟨rfl, rfl⟩ | ⟨a, len, cap, elems, rest, n, _, rfl, rfl, hb, hl, hm, hlen, hel, _, _⟩
  · exact ⟨none, 0, [], rfl, Nat.le_refl _, ⟨rfl, Nat.zero_le _, fun h => absurd h (by simp)⟩, by simp, .inl rfl⟩
  · have each : ∀ i, i < len → ∃ y, (∃ c, c.length = K.sz ∧ K.K w y c ∧ ∀ j u, c[j]? = some u → w.cell? (a.add (i * K.sz + j)) = some u) ∧ Q y := by
      intro i hi
      have h1 := hel i hi
      obtain ⟨z, hz⟩ : ∃ z, elems[i]? = some z := ⟨_, List.getElem?_eq_getElem (by omega)⟩
      rw [hz, Option.bind_eq_some_iff] at h1
      obtain ⟨c, hc, hd⟩ := h1
      obtain ⟨_, hcl, hcell⟩ := World.cells?_some hc
      obtain ⟨y, hy, hq⟩ := he.op hd
      refine ⟨y, ⟨c, by rw [he.sz, hcl], hy, fun j u hu => ?_⟩, hq⟩
      have hj : j < P.cellsOf e := by rw [← hcl]; exact (List.getElem?_eq_some_iff.1 hu).1
      have h3 := hcell j hj
      rw [Addr.add_add] at h3
      rw [he.sz, h3, hu]
    obtain ⟨xs, hxl, hx⟩ := choose_list _ len each
    have hmx : maxLen = 9223372036854775807 := rfl
    refine ⟨some a, cap, xs, by rw [hxl], by omega, ⟨rfl, by omega, fun _ => ⟨a, rfl, fun j p hj => (hx j p hj).1⟩⟩, fun y hy => ?_, .inr ⟨_, _, rfl, by simp [hlen, hxl]⟩⟩
    obtain ⟨i, hi⟩ := List.getElem?_of_mem hy
    exact (hx i y hi).2
theorem Opn.slice {P : Program} {α : Type} {K : Kd α} {t e : TypeId} {Q : α → Prop} (ht : P.underlying t = some (.slice e)) (he : Opn P K e Q) (hc : P.cellsOf t = 1) : Opn P (Kd.slice e K) t (fun xs => ∀ y ∈ xs, Q y) := by
  refine ⟨hc.symm, fun h => ?_⟩
  obtain ⟨A, c, xs, h1, h2, h3, h4, _⟩ := Opn.rows ht he h
  exact ⟨xs, ⟨A, c, h1, h2, h3⟩, h4⟩
/-- The fields fs, from the cell off on, are of the kind K. -/
def OpnF (P : Program) {α : Type} (K : Kd α) (fs : List Field) (off : Nat) (Q : α → Prop) : Prop :=
  ∀ {H : Type} {enc : TypeId × Value → H} {w : World} {base : Nat} {spare : Nat → Bool} {held : Bool} {fuel : Nat} {cs : List Value},
    (∀ (i : Nat) (f : Field), fs[i]? = some f → ∃ x, DataW.trod enc P w base spare held fuel f.type ((cs.drop f.offset).take (P.cellsOf f.type)) = some x) → ∃ y, K.K w y ((cs.drop off).take K.sz) ∧ Q y
theorem OpnF.one {P : Program} {α : Type} {K : Kd α} {f : Field} {off : Nat} {Q : α → Prop} (hf : f.offset = off) (h : Opn P K f.type Q) : OpnF P K [f] off Q := by
  intro H enc w base spare held fuel cs hx
  obtain ⟨x, hx⟩ := hx 0 f rfl
  rw [hf, ← h.sz] at hx
  exact h.op hx
theorem OpnF.pair {P : Program} {α β : Type} {K : Kd α} {L : Kd β} {f : Field} {fs : List Field} {off : Nat} {Q : α → Prop} {R : β → Prop} (hf : f.offset = off) (h : Opn P K f.type Q) (hr : OpnF P L fs (off + K.sz) R) : OpnF P (Kd.pair K L) (f :: fs) off (fun p => Q p.1 ∧ R p.2) := by
  intro H enc w base spare held fuel cs hx
  obtain ⟨x, hx0⟩ := hx 0 f rfl
  rw [hf, ← h.sz] at hx0
  obtain ⟨y, hy, hq⟩ := h.op hx0
  obtain ⟨z, hz, hrr⟩ := hr (cs := cs) (fun i f hi => hx (i + 1) f (by simpa using hi))
  refine ⟨(y, z), ⟨_, _, ?_, hy, hz⟩, hq, hrr⟩
  show (cs.drop off).take (K.sz + L.sz) = _
  rw [List.take_add, List.drop_drop]
theorem Opn.struct {P : Program} {α β : Type} {K : Kd α} {t : TypeId} {fs : Array Field} {Q : α → Prop} {f : β → α} (ht : P.underlying t = some (.struct fs)) (g : α → β) (hg : ∀ a, f (g a) = a) (hf : OpnF P K fs.toList 0 Q) (hc : K.sz = P.cellsOf t) : Opn P (Kd.iso K f) t (fun x => Q (f x)) := by
  refine ⟨hc, fun h => ?_⟩
  obtain ⟨xs, n, rfl, _, hl, hn, hx⟩ := DataW.trod_struct ht h
  obtain ⟨y, hy, hq⟩ := hf (fun i f hi => by
    have hi' : fs[i]? = some f := by simpa using hi
    have hlt : i < fs.size := (Array.getElem?_eq_some_iff.1 hi').1
    exact ⟨xs[i]'(by omega), by rw [hx i f hi', List.getElem?_eq_getElem (by omega)]⟩)
  rw [List.drop_zero, List.take_of_length_le (by rw [hl, hc]; exact Nat.le_refl _)] at hy
  exact ⟨g y, by show K.K _ (f (g y)) _; rw [hg]; exact hy, by rw [hg]; exact hq⟩
/-- An argument that is a slice. -/
theorem open_rows {P : Program} {α : Type} {K : Kd α} {t e : TypeId} {Q : α → Prop} (ht : P.underlying t = some (.slice e)) (he : Opn P K e Q) {H : Type} {enc : TypeId × Value → H} {w : World} {base : Nat} {spare : Nat → Bool} {held : Bool} {r : Reach} {b0 : Nat} {v : Value} {d : DataW H} {p : List MemPlace}
    (hval : Value.okWide P w r b0 t v) (hd : DataW.Trod enc P w base spare held t v d p) : ∃ A c xs, v = .slice A xs.length c ∧ K.C w A xs.length xs ∧ xs.length ≤ c ∧ (∀ y ∈ xs, Q y) ∧ (xs = [] ∨ ∃ es rs, d = .slice es rs ∧ es.length = xs.length) := by
  obtain ⟨a, n, c, rfl⟩ := okWide_slice ht hval
  obtain ⟨fuel, hf⟩ := hd
  obtain ⟨A, c', xs, h1, h2, h3, h4, h5⟩ := Opn.rows ht he hf
  have hcs : (Value.slice a n c).cells.toList = [.slice a n c] := by simp [Value.cells]
  rw [hcs] at h1
  simp only [List.cons.injEq, Value.slice.injEq, and_true] at h1
  obtain ⟨rfl, rfl, rfl⟩ := h1
  exact ⟨_, _, xs, rfl, h3, h2, h4, h5⟩
end Go.Proofs.YtenngdkgahngjaaDoor.Opn
