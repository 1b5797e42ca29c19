/- What the laws lean on, part 2: texts of this claim, merged and cut to what is used. -/
import Derived.Attr
import Derived.Below
import Derived.Calls
import Derived.ChangeArms
import Derived.ChangeAt
import Derived.ChangeFn
import Derived.DataElems
import Derived.DataReads
import Derived.Deep.LoopGhost
import Derived.IntWalk
import Derived.LaidEql
import Derived.Laws.BytesString
import Derived.Laws.Cells
import Derived.Laws.MakeOwn
import Derived.Laws.OwnMore
import Derived.Laws.Pointers
import Derived.Laws.Slices
import Derived.Laws.StructEq
import Derived.Lib.AppendStr
import Derived.Lib.AppendZeros
import Derived.Lib.ConvBytes
import Derived.Lib.UnsafeStr
import Derived.Orders
import Derived.Scope
import Derived.SizedLaws
import Derived.WideShapes
import GoSem.Core.Utf8
import Derived.Test.YtpkjiplgpgbheaaGreatDoorP141
set_option linter.unusedVariables false
set_option linter.unusedSimpArgs false
set_option linter.unusedSectionVars false
namespace Go.Proofs.Ev
open Go Go.RowKit Go.WideShapes
set_option linter.unusedVariables false
set_option linter.unusedSimpArgs false
/-- Whatever is read of type t is a value of ours, laid as e says, and Q holds of it. -/
structure Opv (P : Program) {α : Type} (e : α → List PV) (t : TypeId) (Q : α → Prop) : Prop where
  len : ∀ y, (e y).length = P.cellsOf t
  sf : ∀ y, ∀ p ∈ e y, p.sf = true
  op : ∀ {H : Type} {enc : TypeId × Value → H} {w : World} {base : Nat} {spare : Nat → Bool} {held : Bool} {fuel : Nat} {cs : List Value} {x : DataW H × List MemPlace}, DataW.trod enc P w base spare held fuel t cs = some x → (x.1.weights P t).all (· ≤ reachBytes) = true →
    ∃ y, cs.length = P.cellsOf t ∧ (∀ (j : Nat) (p : PV) (u : Value), (e y)[j]? = some p → cs[j]? = some u → RelV (cxW w) p u) ∧ Q y
theorem Opv.mono {P : Program} {α : Type} {e : α → List PV} {t : TypeId} {Q R : α → Prop} (h : Opv P e t Q) (hR : ∀ y, Q y → R y) : Opv P e t R :=
  ⟨h.len, h.sf, fun a b => by obtain ⟨y, h1, h2, h3⟩ := h.op a b; exact ⟨y, h1, h2, hR y h3⟩⟩
theorem at0 {p q : PV} {j : Nat} (h : [p][j]? = some q) : j = 0 ∧ q = p := by
  cases j with
  | zero => simpa using h.symm
  | succ j => simp at h
theorem at0v {p q : Value} {j : Nat} (h : [p][j]? = some q) : j = 0 ∧ q = p := by
  cases j with
  | zero => simpa using h.symm
  | succ j => simp at h
theorem Opv.int {P : Program} {t : TypeId} {k : IntKind} (ht : P.underlying t = some (.int k)) (hc : P.cellsOf t = 1) : Opv P (fun n => [.int k n]) t (fun n => (Lit.int k n).wf = true) := by
  refine ⟨fun _ => hc.symm, fun y p h => by simp at h; subst h; rfl, fun h _ => ?_⟩
  obtain ⟨n, rfl, _, hw⟩ := DataW.trod_int ht h
  refine ⟨n, hc.symm, fun j p u h1 h2 => ?_, hw⟩
  rw [(at0 h1).2, (at0v h2).2]
  exact .int k n
theorem Opv.bool {P : Program} {t : TypeId} (ht : P.underlying t = some .bool) (hc : P.cellsOf t = 1) : Opv P (fun b => [.bool b]) t (fun _ => True) := by
  refine ⟨fun _ => hc.symm, fun y p h => by simp at h; subst h; rfl, fun h _ => ?_⟩
  obtain ⟨b, rfl, _⟩ := DataW.trod_bool ht h
  refine ⟨b, hc.symm, fun j p u h1 h2 => ?_, trivial⟩
  rw [(at0 h1).2, (at0v h2).2]
  exact .bool b
theorem Opv.str {P : Program} {t : TypeId} (ht : P.underlying t = some .string) (hc : P.cellsOf t = 1) : Opv P (fun s => [.str s]) t (fun s => s.size ≤ 140737488351232) := by
  refine ⟨fun _ => hc.symm, fun y p h => by simp at h; subst h; rfl, fun h hz => ?_⟩
  obtain ⟨s, rfl, rfl, hw⟩ := DataW.trod_string ht h
  refine ⟨s, hc.symm, fun j p u h1 h2 => ?_, ?_⟩
  · rw [(at0 h1).2, (at0v h2).2]
    exact .str s
  · have hr : reachBytes = 140737488351232 := rfl
    simp [DataW.weights] at hz
    rw [← hr]
    exact hz
theorem pick_list {α : Type} (R : Nat → α → Prop) : ∀ (n : Nat), (∀ i, i < n → ∃ y, R i y) → ∃ xs : List α, xs.length = n ∧ ∀ j p, xs[j]? = some p → R j p
  | 0, _ => ⟨[], rfl, fun j p h => by simp at h⟩
  | n + 1, h => by
    obtain ⟨xs, hl, hx⟩ := pick_list R n (fun i hi => h i (by omega))
    obtain ⟨y, hy⟩ := h n (by omega)
    refine ⟨xs ++ [y], by simp [hl], fun j p hj => ?_⟩
    by_cases k : j < n
    · rw [List.getElem?_append_left (by omega)] at hj
      exact hx j p hj
    · rw [List.getElem?_append_right (by omega), hl] at hj
      have hjn : j - n = 0 := by
        have := (List.getElem?_eq_some_iff.1 hj).1
        simp at this
        omega
      rw [hjn] at hj
      obtain rfl : y = p := by simpa using hj
      obtain rfl : j = n := by omega
      exact hy
theorem weights_all {H : Type} {P : Program} {e : TypeId} : ∀ {l : List (DataW H)} {d : DataW H}, d ∈ l → ∀ n ∈ d.weights P e, n ∈ DataW.weightsAll P e l
  | x :: l, d, hd, n, hn => by
    simp only [DataW.weightsAll, List.mem_append]
    rcases List.mem_cons.1 hd with rfl | hd
    · exact .inl hn
    · exact .inr (weights_all hd n hn)
theorem Opv.rows {P : Program} {α : Type} {e : α → List PV} {t te : TypeId} {Q : α → Prop} (ht : P.underlying t = some (.slice te)) (he : Opv P e te Q) (hce : 0 < P.cellsOf te) {B : Nat} (hB : 0 < B) (hb : B ≤ P.bytesOf te) {H : Type} {enc : TypeId × Value → H} {w : World} {base : Nat} {spare : Nat → Bool} {held : Bool} {fuel : Nat} {cs : List Value} {x : DataW H × List MemPlace}
    (h : DataW.trod enc P w base spare held fuel t cs = some x) (hz : (x.1.weights P t).all (· ≤ reachBytes) = true) : ∃ A c, ∃ xs : List α, cs = [.slice A xs.length c] ∧ RelV (cxW w) (.ro (xs.map e)) (.slice A xs.length c) ∧ (∀ y ∈ xs, Q y) ∧ xs.length ≤ 140737488351232 / B := by
  rcases DataW.trod_slice ht h with ⟨rfl, rfl⟩ | ⟨a, len, cap, elems, rest, n, _, rfl, rfl, hbb, hl, hm, hlen, hel, _, _⟩
  · exact ⟨none, 0, [], rfl, .ro [] none 0 1 (fun _ _ => .bool false) (Nat.le_refl _) (fun _ => ⟨rfl, rfl⟩) (by simp) (by simp) (by simp) (by simp) (by simp), by simp, Nat.zero_le _⟩
  · have hr : reachBytes = 140737488351232 := rfl
    have hzz : (elems.length + rest.length) * P.bytesOf te ≤ 140737488351232 ∧ ∀ (i : Nat) (d : DataW H × List MemPlace), elems[i]? = some d → (d.1.weights P te).all (· ≤ reachBytes) = true := by
      rw [List.all_eq_true] at hz
      have hw : (DataW.slice (elems.map (·.1)) (rest.map (·.1))).weights P t = ((elems.map (·.1)).length + (rest.map (·.1)).length) * P.bytesOf te :: (DataW.weightsAll P te (elems.map (·.1)) ++ DataW.weightsAll P te (rest.map (·.1))) := by
        simp only [DataW.weights, ht]
      simp only [hw] at hz
      refine ⟨?_, fun i d hd => ?_⟩
      · have := hz _ (List.mem_cons_self ..)
        rw [hr] at this
        simpa using this
      · rw [List.all_eq_true]
        intro v hv
        refine hz v (List.mem_cons_of_mem _ (List.mem_append_left _ (weights_all (d := d.1) ?_ v hv)))
        exact List.mem_map_of_mem (List.mem_of_getElem? hd)
    obtain ⟨hz1, hz2⟩ := hzz
    have each : ∀ i, i < len → ∃ y, (∃ c : List Value, c.length = P.cellsOf te ∧ (∀ (j : Nat) (p : PV) (u : Value), (e y)[j]? = some p → c[j]? = some u → RelV (cxW w) p u) ∧ ∀ (j : Nat) (u : Value), c[j]? = some u → w.cell? (a.add (i * P.cellsOf te + j)) = some u) ∧ Q y := by
      intro i hi
      have h1 := hel i hi
      obtain ⟨z, hzi⟩ : ∃ z, elems[i]? = some z := ⟨_, List.getElem?_eq_getElem (by omega)⟩
      rw [hzi, Option.bind_eq_some_iff] at h1
      obtain ⟨c, hc, hd⟩ := h1
      obtain ⟨_, hcl, hcell⟩ := World.cells?_some hc
      obtain ⟨y, hy, hyr, hq⟩ := he.op hd (hz2 i z hzi)
      refine ⟨y, ⟨c, hy, hyr, fun j u hu => ?_⟩, hq⟩
      have hj : j < P.cellsOf te := by rw [← hcl]; exact (List.getElem?_eq_some_iff.1 hu).1
      have h3 := hcell j hj
      rw [Addr.add_add] at h3
      rw [h3, hu]
    obtain ⟨xs, hxl, hx⟩ := pick_list _ len each
    have hxB : xs.length ≤ 140737488351232 / B := by
      rw [hxl, Nat.le_div_iff_mul_le hB]
      have h1 : len ≤ elems.length + rest.length := by omega
      exact Nat.le_trans (Nat.mul_le_mul h1 hb) hz1
    refine ⟨some a, cap, xs, by rw [hxl], ?_, fun y hy => ?_, hxB⟩
    · have hlm : xs.length = (xs.map e).length := by simp
      rw [hlm]
      have hcell : ∀ (i : Nat) (row : List PV) (j : Nat) (p : PV), (xs.map e)[i]? = some row → row[j]? = some p → ∃ u, w.cell? (a.add (i * P.cellsOf te + j)) = some u ∧ RelV (cxW w) p u := by
        intro i row j p h1 h2
        rw [List.getElem?_map] at h1
        cases hxi : xs[i]? with
        | none => rw [hxi] at h1; cases h1
        | some y =>
          rw [hxi] at h1
          obtain rfl := Option.some.inj h1
          obtain ⟨⟨c, c1, c2, c3⟩, _⟩ := hx i y hxi
          have hj : j < c.length := by rw [c1, ← he.len y]; exact (List.getElem?_eq_some_iff.1 h2).1
          exact ⟨c[j], c3 j _ (List.getElem?_eq_getElem hj), c2 j p _ h2 (List.getElem?_eq_getElem hj)⟩
      have hsp : xs.map e ≠ [] → a.spot = none ∧ a.block < w.heap.size := by
        intro hne
        obtain ⟨row, hrow⟩ : ∃ row, (xs.map e)[0]? = some row := by
          cases hm : xs.map e with
          | nil => exact absurd hm hne
          | cons r _ => exact ⟨r, rfl⟩
        have hrl : row.length = P.cellsOf te := by
          obtain ⟨y, _, rfl⟩ := List.mem_map.1 (List.mem_of_getElem? hrow)
          exact he.len y
        obtain ⟨p, hp⟩ : ∃ p, row[0]? = some p := ⟨_, List.getElem?_eq_getElem (by omega)⟩
        obtain ⟨u, hu, _⟩ := hcell 0 row 0 p hrow hp
        rw [Nat.zero_mul] at hu
        have h0 : a.add (0 + 0) = a := by simp [Addr.add]
        rw [h0] at hu
        refine ⟨World.cell?_spot hu, ?_⟩
        unfold World.cell? at hu
        cases hg : w.heap[a.block]? with
        | none => rw [hg] at hu; cases hu
        | some _ => exact (Array.getElem?_eq_some_iff.1 hg).1
      have hadd : xs.map e ≠ [] → ∀ k, a.add k = ⟨a.block, a.off + k, none⟩ := by
        intro hne k
        obtain ⟨s1, _⟩ := hsp hne
        unfold Addr.add
        split
        · rename_i q; rw [q]; cases a; simp only at s1; subst s1; rfl
        · rfl
      refine .ro (xs.map e) (some a) cap (P.cellsOf te) (fun i j => (w.cell? (a.add (i * P.cellsOf te + j))).getD undef) (by simp; omega) (fun q => by cases q) (fun i row hi => ?_) (fun ad q hne => ?_) (fun i row j p h1 h2 => ?_) (fun ad i row j p q h1 h2 => ?_) (fun i row j p h1 h2 => ?_)
      · obtain ⟨y, _, rfl⟩ := List.mem_map.1 (List.mem_of_getElem? hi)
        exact he.len y
      · cases q
        exact ⟨(hsp hne).1, fun h => h, (hsp hne).2⟩
      · obtain ⟨y, _, rfl⟩ := List.mem_map.1 (List.mem_of_getElem? h1)
        exact he.sf y p (List.mem_of_getElem? h2)
      · cases q
        have hne : xs.map e ≠ [] := by intro h; rw [h] at h1; simp at h1
        obtain ⟨u, hu, _⟩ := hcell i row j p h1 h2
        show w.cell? _ = _
        rw [hu, ← hadd hne, hu]
        rfl
      · obtain ⟨u, hu, hv⟩ := hcell i row j p h1 h2
        simp only [hu, Option.getD_some]
        exact hv
    · obtain ⟨i, hi⟩ := List.getElem?_of_mem hy
      exact (hx i y hi).2
theorem Opv.slice {P : Program} {α : Type} {e : α → List PV} {t te : TypeId} {Q : α → Prop} (ht : P.underlying t = some (.slice te)) (he : Opv P e te Q) (hce : 0 < P.cellsOf te) (hc : P.cellsOf t = 1) {B : Nat} (hB : 0 < B) (hb : B ≤ P.bytesOf te) : Opv P (fun xs : List α => [.ro (xs.map e)]) t (fun xs => (∀ y ∈ xs, Q y) ∧ xs.length ≤ 140737488351232 / B) := by
  refine ⟨fun _ => hc.symm, fun y p h => by simp at h; subst h; rfl, fun h hz => ?_⟩
  obtain ⟨A, c, xs, rfl, h2, h3, h4⟩ := Opv.rows ht he hce hB hb h hz
  refine ⟨xs, hc.symm, fun j p u k1 k2 => ?_, h3, h4⟩
  rw [(at0 k1).2, (at0v k2).2]
  exact h2
/-- The fields fs, from the cell off on, are laid as e says. -/
def OpvF (P : Program) {α : Type} (e : α → List PV) (n : Nat) (fs : List Field) (off : Nat) (Q : α → Prop) : Prop :=
  (∀ y, (e y).length = n) ∧ (∀ y, ∀ p ∈ e y, p.sf = true) ∧
  ∀ {H : Type} {enc : TypeId × Value → H} {w : World} {base : Nat} {spare : Nat → Bool} {held : Bool} {fuel : Nat} {cs : List Value},
    (∀ (i : Nat) (f : Field), fs[i]? = some f → ∃ x, DataW.trod enc P w base spare held fuel f.type ((cs.drop f.offset).take (P.cellsOf f.type)) = some x ∧ (x.1.weights P f.type).all (· ≤ reachBytes) = true) → ∃ y, ((cs.drop off).take n).length = n ∧ (∀ (j : Nat) (p : PV) (u : Value), (e y)[j]? = some p → ((cs.drop off).take n)[j]? = some u → RelV (cxW w) p u) ∧ Q y
theorem OpvF.one {P : Program} {α : Type} {e : α → List PV} {f : Field} {off : Nat} {Q : α → Prop} (hf : f.offset = off) (h : Opv P e f.type Q) : OpvF P e (P.cellsOf f.type) [f] off Q := by
  refine ⟨h.len, h.sf, ?_⟩
  intro H enc w base spare held fuel cs hx
  obtain ⟨x, hx, hz⟩ := hx 0 f rfl
  rw [hf] at hx
  exact h.op hx hz
theorem weights_fields {H : Type} {P : Program} {t : TypeId} {fs : Array Field} {xs : List (DataW H × List MemPlace)} (ht : P.underlying t = some (.struct fs)) (hz : ((DataW.agg (xs.map (·.1)) : DataW H).weights P t).all (· ≤ reachBytes) = true) (i : Nat) (f : Field) (x : DataW H × List MemPlace) (hf : fs[i]? = some f) (hx : xs[i]? = some x) : (x.1.weights P f.type).all (· ≤ reachBytes) = true := by
  rw [List.all_eq_true] at hz ⊢
  intro v hv
  refine hz v ?_
  have : (DataW.agg (xs.map (·.1)) : DataW H).weights P t = DataW.weightsEach P (fs.toList.map (·.type)) (xs.map (·.1)) := by simp only [DataW.weights, ht]
  rw [this]
  exact DataW.weights_mem_each (j := i) (t := f.type) (d := x.1) (by rw [List.getElem?_map, Array.getElem?_toList, hf]; rfl) (by rw [List.getElem?_map, hx]; rfl) v hv
theorem Opv.struct {P : Program} {α β : Type} {e : α → List PV} {e' : β → List PV} {t : TypeId} {fs : Array Field} {Q : α → Prop} {n : Nat} (ht : P.underlying t = some (.struct fs)) (f : β → α) (g : α → β) (hg : ∀ a, f (g a) = a) (he : ∀ b, e' b = e (f b)) (hf : OpvF P e n fs.toList 0 Q) (hc : P.cellsOf t = n) : Opv P e' t (fun x => Q (f x)) := by
  obtain ⟨r1, r2, r3⟩ := hf
  refine ⟨fun y => by rw [he, r1, hc], fun y p hp => r2 _ p (by rw [← he]; exact hp), fun h hz => ?_⟩
  obtain ⟨xs, m, rfl, hx0, hl, hn, hx⟩ := DataW.trod_struct ht h
  subst hx0
  obtain ⟨y, hy1, hy2, hq⟩ := r3 (fun i f hi => by
    have hi' : fs[i]? = some f := by simpa using hi
    have hlt : i < fs.size := (Array.getElem?_eq_some_iff.1 hi').1
    exact ⟨xs[i]'(by omega), by rw [hx i f hi', List.getElem?_eq_getElem (by omega)], weights_fields ht hz i f _ hi' (List.getElem?_eq_getElem (by omega))⟩)
  rw [List.drop_zero, List.take_of_length_le (by rw [hl, hc]; exact Nat.le_refl _)] at hy1 hy2
  exact ⟨g y, hl, fun j p u h1 h2 => hy2 j p u (by rw [he, hg] at h1; exact h1) h2, by rw [hg]; exact hq⟩
theorem rel_nil {c : Cx} : ([] : List PV).length = ([] : List Value).length ∧ ∀ (i : Nat) (x : PV) (u : Value), ([] : List PV)[i]? = some x → ([] : List Value)[i]? = some u → RelV c x u := ⟨rfl, fun i x u h => by simp at h⟩
theorem rel_cons {c : Cx} {x : PV} {u : Value} {l : List PV} {us : List Value} (h : RelV c x u) (hl : l.length = us.length ∧ ∀ (i : Nat) (x : PV) (u : Value), l[i]? = some x → us[i]? = some u → RelV c x u) :
    (x :: l).length = (u :: us).length ∧ ∀ (i : Nat) (y : PV) (v : Value), (x :: l)[i]? = some y → (u :: us)[i]? = some v → RelV c y v := by
  refine ⟨by simp [hl.1], fun i y v h1 h2 => ?_⟩
  cases i with
  | zero =>
    rw [List.getElem?_cons_zero] at h1 h2
    rw [← Option.some.inj h1, ← Option.some.inj h2]
    exact h
  | succ i =>
    rw [List.getElem?_cons_succ] at h1 h2
    exact hl.2 i y v h1 h2
section
variable {H : Type} {enc : TypeId × Value → H} {P : Program} {w : World} {base : Nat} {spare : Nat → Bool} {held : Bool} {r : Reach} {b0 : Nat} {v : Value} {d : DataW H} {p : List MemPlace}
theorem size_at {ts : List TypeId} {ds : List (DataW H)} (h : (DataW.weightsEach P ts ds).all (· ≤ reachBytes) = true) {j : Nat} {t : TypeId} (ht : ts[j]? = some t) (hd : ds[j]? = some d) : (d.weights P t).all (· ≤ reachBytes) = true := by
  rw [List.all_eq_true] at h ⊢
  exact fun n hn => h n (DataW.weights_mem_each ht hd n hn)
theorem open_str {t : TypeId} (ht : P.underlying t = some .string) (hval : Value.okWide P w r b0 t v) (hd : DataW.Trod enc P w base spare held t v d p) (hz : (d.weights P t).all (· ≤ reachBytes) = true) : ∃ s, RelV (cxW w) (.str s) v ∧ s.size ≤ 140737488351232 := by
  obtain ⟨s, rfl⟩ := okWide_string ht hval
  obtain ⟨fuel, hf⟩ := hd
  obtain ⟨m, h1, hx, hw⟩ := DataW.trod_string ht hf
  simp [Value.cells] at h1
  subst h1
  obtain ⟨rfl, _⟩ := Prod.mk.inj hx
  refine ⟨s, .str s, ?_⟩
  have hr : reachBytes = 140737488351232 := rfl
  simp [DataW.weights] at hz
  rw [← hr]
  exact hz
end
/-- A contract of ours, as a call from outside, the arguments in one. -/
theorem calls_of {P : Program} [Tbl P] {f : Nat} {args : List PV} {us : List Value} {r : PV} {v : Value} {w : World} (hD : Den P f args [] r [] []) (hr : valR r = some v) (ha : args.length = us.length ∧ ∀ (i : Nat) (x : PV) (u : Value), args[i]? = some x → us[i]? = some u → RelV (cxW w) x u)
    (hT : ∀ w' : World, (∀ k, k < w.heap.size → w'.heap[k]? = w.heap[k]?) → Tbl.T P w') : Calls P f us.toArray w fun e w' => e = .returned v ∧ Below w.heap.size w w' := calls_of_den hD hr ha.1 ha.2 hT
end Go.Proofs.Ev
namespace Go.Proofs.Ev
open Go Go.RowKit
set_option linter.unusedVariables false
set_option linter.unusedSimpArgs false
set_option linter.unusedSectionVars false
section
variable {P : Program} [Tbl P] {Q : St → Prop} {k : List It} {σ : St}
theorem Run_rcall {ops os : List Oper} {o : Oper} {f : Operand} {args : Array Operand} {ts : Array Nat} {g : Nat} {caps as : List PV} {r : PV} (hop : o.op = .call { callee := .value f, args := args, argTypes := ts }) (hg : wantS ops σ o = some true) (hf : σ.ev f = .fn g caps)
    (has : (args.toList.map σ.ev ++ caps).map (rdV σ.m) = as) (hD : Den P g as [] r [] []) (hok : okF P g = true) (ha : (as.all plainG) = true) (hpr : noMem r = true) (hr : Run P Q (.reg ops os :: k) (σ.app o.dst ⟨r, [], []⟩)) : Run P Q (.reg ops (o :: os) :: k) σ := by
  subst has
  simp only [Run, wpF] at hr ⊢
  refine ⟨σ, ⟨r, [], []⟩, Gh.refl σ, .inl ⟨hg, ?_⟩, hr⟩
  show StepE P σ o _
  unfold StepE
  rw [hop]
  simp only
  rw [hf]
  exact .inr (.inr ⟨r, hok, ha, hpr, hD, rfl⟩)
/-- A call that reads own rows. -/
theorem RR {g : Nat} {as : List PV} {r : PV} (hD : Den P g as [] r [] []) {ops os : List Oper} {o : Oper} {f : Operand} {args : Array Operand} {ts : Array Nat} {caps : List PV} {d : Option Nat} (hr : Run P Q (.reg ops os :: k) (σ.app d ⟨r, [], []⟩))
    (hdst : o.dst = d := by first | exact (rfl : some _ = some _) | exact (rfl : none = none))
    (hop : o.op = .call { callee := .value f, args := args, argTypes := ts } := by exact rfl)
    (hg : wantS ops σ o = some true := by (simp (disch := omega) only [↓reduceIte, ↓nxt, ↓wantS.eq_def, ↓opF, ↓St.ev.eq_def, ↓app_t, ↓app_m0, ↓app_m1, ↓app_m2, go_sem, *, reduceIte, ite_true, ite_false, Nat.reduceEqDiff, reduceCtorEq]; first | done | exact rfl))
    (hf : σ.ev f = .fn g caps := by (simp (disch := omega) only [↓reduceIte, ↓nxt, ↓wantS.eq_def, ↓opF, ↓St.ev.eq_def, ↓app_t, ↓app_m0, ↓app_m1, ↓app_m2, go_sem, *, reduceIte, ite_true, ite_false, Nat.reduceEqDiff, reduceCtorEq]; first | done | exact rfl))
    (has : boxP ((args.toList.map σ.ev ++ caps).map (rdV σ.m)) = some as := by (simp (disch := omega) only [boxP, rdV.eq_def, look, List.map_append, or_true, true_or, ↓reduceIte, ↓nxt, ↓wantS.eq_def, ↓opF, ↓St.ev.eq_def, ↓app_t, ↓app_m0, ↓app_m1, ↓app_m2, go_sem, *, reduceIte, ite_true, ite_false, Nat.reduceEqDiff, Nat.reduceAdd, Nat.reduceSub, Nat.reduceMul, Nat.reduceLT, Nat.reduceLeDiff, Nat.reduceBEq, Int.reduceToNat, Int.reduceLT, Int.reduceLE, Int.reduceAdd, Int.reduceSub, Int.reduceNeg, Int.reduceBEq, Int.reduceEq, reduceCtorEq, ge_iff_le, gt_iff_lt]; first | done | exact rfl))
    (hok : okF P g = true := by first | assumption | exact (by kernel_rfl))
    (ha : (as.all plainG) = true := by first | exact rfl | (simp only [go_sem, plainG.eq_def, plain1, *]; first | done | exact rfl | fail))
    (hpr : noMem r = true := by first | exact rfl | (simp only [go_sem, noMem.eq_def, noMemA.eq_def, noMem1.eq_def, *]; first | done | fail)) : Run P Q (.reg ops (o :: os) :: k) σ :=
  Run_rcall hop hg hf (boxP_eq has) hD hok ha hpr (hdst ▸ hr)
end
end Go.Proofs.Ev
namespace Go.Proofs.Ev
open Go Go.RowKit
set_option linter.unusedVariables false
set_option linter.unusedSimpArgs false
set_option linter.unusedSectionVars false
/-- Values that leave a function: E tells of each block that came in its number now, and its number outside. -/
def exp2 (L : List (Ev.Id × Nat)) (E : List (Nat × Nat)) : PV → Option PV
  | .ptr (.ext k) v i o => (E[k]?).bind fun q => if v = q.1 then some (.ptr (.ext k) q.2 i o) else none
  | .ptr (.loc a b) v i o => (posOf L (.loc a b) v).map fun j => .ptr (.loc j 0) 1 i o
  | .own (.ext k) v n => (E[k]?).bind fun q => if v = q.1 then some (.own (.ext k) q.2 n) else none
  | .own (.loc a b) v n => (posOf L (.loc a b) v).map fun j => .own (.loc j 0) 1 n
  | .rp row o => some (.rp row o)
  | x => if x.sf = true then some x else none
theorem exp2_moves {c d : Cx} {L : List (Ev.Id × Nat)} {E : List (Nat × Nat)} (hw : d.w = c.w) (hmu : ∀ k, ¬ c.mu k → ¬ d.mu k) (hL : ∀ (j : Nat) (p : Ev.Id × Nat), L[j]? = some p → c.ver p.1 = p.2 ∧ d.ver (.loc j 0) = 1 ∧ d.at_ (.loc j 0) = c.at_ p.1 ∧ d.sz (.loc j 0) = c.sz p.1)
    (hE : ∀ (k : Nat) (q : Nat × Nat), E[k]? = some q → c.ver (.ext k) = q.1 ∧ d.ver (.ext k) = q.2 ∧ d.at_ (.ext k) = c.at_ (.ext k) ∧ d.sz (.ext k) = c.sz (.ext k)) : Moves (exp2 L E) c d where
  rel := by
    intro x y u hp h
    unfold exp2 at hp
    split at hp
    · rename_i k v i o
      obtain ⟨q, hk, hp⟩ := bindS hp
      split at hp
      · rename_i hv
        cases hp
        obtain ⟨a1, a2, a3, a4⟩ := hE k q hk
        cases h with
        | ptr b v i o u h1 hv' h =>
          refine .ptr _ _ _ _ _ h1 (by rw [a2]; exact Nat.le_refl _) (fun _ => ?_)
          rw [a3, a4]
          exact h (by rw [hv]; exact a1.symm)
      · cases hp
    · rename_i a b v i o
      obtain ⟨j, hj, rfl⟩ := mapS hp
      obtain ⟨l1, l2, l3, l4⟩ := hL j _ (posOf_get hj)
      cases h with
      | ptr b v i o u h1 hv h =>
        refine .ptr _ _ _ _ _ h1 (by rw [l2]; exact Nat.le_refl _) (fun _ => ?_)
        rw [l3, l4]
        exact h l1.symm
    · rename_i k v n
      obtain ⟨q, hk, hp⟩ := bindS hp
      split at hp
      · rename_i hv
        cases hp
        obtain ⟨a1, a2, a3, a4⟩ := hE k q hk
        cases h with
        | own b v n u h1 hv' h =>
          refine .own _ _ _ _ h1 (by rw [a2]; exact Nat.le_refl _) (fun _ => ?_)
          rw [a3]
          exact h (by rw [hv]; exact a1.symm)
      · cases hp
    · rename_i a b v n
      obtain ⟨j, hj, rfl⟩ := mapS hp
      obtain ⟨l1, l2, l3, l4⟩ := hL j _ (posOf_get hj)
      cases h with
      | own b v n u h1 hv h =>
        refine .own _ _ _ _ h1 (by rw [l2]; exact Nat.le_refl _) (fun _ => ?_)
        rw [l3]
        exact h l1.symm
    · cases hp
      exact RelV.flat (c := c) (d := d) hw hmu h (.inr ⟨_, _, rfl⟩)
    · split at hp
      · rename_i hs
        cases hp
        exact RelV.flat (c := c) (d := d) hw hmu h (.inl hs)
      · cases hp
  one := by
    intro x y hp
    unfold exp2 at hp
    split at hp
    · obtain ⟨q, hk, hp⟩ := bindS hp
      split at hp
      · cases hp; rfl
      · cases hp
    · obtain ⟨j, hj, rfl⟩ := mapS hp; rfl
    · obtain ⟨q, hk, hp⟩ := bindS hp
      split at hp
      · cases hp; rfl
      · cases hp
    · obtain ⟨j, hj, rfl⟩ := mapS hp; rfl
    · cases hp; rfl
    · split at hp
      · rename_i hs; cases hp; exact PV.one_of_sf hs
      · cases hp
/-- The end of a function that is handed blocks that name each other. -/
def FinD (P : Program) (ts : List ResultVar) (nbs : Nat) (σ : St) (r : PV) (nb : List Cont) (bs' : List (Nat × Option Cont)) : Prop :=
  ∃ (τ : St) (L : List (Ev.Id × Nat)) (E : List (Nat × Nat)) (vals : List PV), Gh σ τ ∧ resL P τ ts = some vals ∧ liftR (exp2 L E) (nz (resV vals)) = some r ∧ L.length = nb.length ∧ bs'.length = nbs ∧ E.length = nbs ∧ (L.map (·.1)).Nodup ∧
    (∀ (j : Nat) (p : Ev.Id × Nat), L[j]? = some p → ∃ y z, τ.m p.1 = ⟨p.2, some y⟩ ∧ nb[j]? = some z ∧ liftC (exp2 L E) y = some z ∧ ∀ k, p.1 ≠ .ext k) ∧
    (∀ (k : Nat) (q : Nat × Nat), E[k]? = some q → ∃ y z, τ.m (.ext k) = ⟨q.1, y⟩ ∧ bs'[k]? = some (q.2, z) ∧ (∀ z', z = some z' → ∃ y', y = some y' ∧ liftC (exp2 L E) y' = some z') ∧ (q.2 = 0 → q.1 = 0))
section
variable {P : Program} [Tbl P]
theorem denD_of_wp (hmix : P.follows .mixedOrders = true) {f : Nat} {fn : Func} {code : Code} {N : Nat} (hc : codeOk P f fn code N) {args : List PV} {bs : List Cont} {r : PV} {nb : List Cont} {bs' : List (Nat × Option Cont)} (hn : args.length ≤ N)
    (h : wpC (StepE P) code (fun e σ => match e with | .normal => FinD P fn.results.toList bs.length σ r nb bs' | .ret => FinD P fn.results.toList bs.length σ r nb bs' | _ => False) (st0 args bs)) : DenD P f args bs r nb bs' := by
  obtain ⟨hf, hb, hd, hN⟩ := hc
  intro us foot omut c hT hbase hlen hargs R
  refine calls_of_wp hf hb ?_
  have hsz : us.toArray.size = us.length := by simp
  have hR : Rel c.w foot omut (st0 args bs) (us.toArray ++ Array.replicate (fn.ntmps - us.toArray.size) undef) c := by
    refine ⟨fun i => ?_, R.ver, R.mem, R.mt, R.inj, R.om, R.fr, R.bs, R.fb, R.bw⟩
    show RelV c (args.getD i .dead) _
    by_cases hi : i < us.length
    · have hi' : i < args.length := by omega
      have e1 : args.getD i .dead = args[i] := by simp [List.getD_eq_getElem?_getD, hi']
      have e2 : (us.toArray ++ Array.replicate (fn.ntmps - us.toArray.size) undef).getD i undef = us[i] := by
        rw [Array.getD_eq_getD_getElem?, Array.getElem?_append_left (by simpa using hi)]
        simp [hi]
      rw [e1, e2]
      exact hargs i _ _ (List.getElem?_eq_getElem hi') (List.getElem?_eq_getElem hi)
    · have e1 : args.getD i .dead = .dead := by
        rw [List.getD_eq_getElem?_getD, List.getElem?_eq_none (by omega)]; rfl
      rw [e1]
      exact .dead _
  have hwp := wpC_sound (stepE_good hT (P := P) (w0 := c.w) (foot := foot) (omut := omut) (N := N)) hmix (base := c.base) (ds := []) c code hd _ _ h { tmps := us.toArray ++ Array.replicate (fn.ntmps - us.toArray.size) undef, defers := [] } c hR (Cx.le.refl c) (by simp; omega) rfl rfl
  refine wp_mono hwp ?_
  rintro e a w' ⟨σ, c1, hw1, hle1, hq, R1, hN1, hb1, hds1⟩
  subst hw1
  have hfin : FinD P fn.results.toList bs.length σ r nb bs' → bodyPost P fn (fun e w' => ∃ u d, e = .returned u ∧ d.w = w' ∧ d.base = c.base ∧ c.le d ∧ RelV d r u ∧ Rel c.w foot omut (stM (m1D bs' nb)) #[] d) .ret a c1.w := by
    rintro ⟨τ, L, E, vals, hg, t1, t2, t3, t4, t4', t5, t6, t9⟩
    obtain ⟨c2, f1, f2, f3, R2⟩ := hg _ _ _ _ _ R1
    have hle2 : c.le c2 := hle1.trans f3
    have hb2 : c2.base = c.base := f2.trans hb1
    obtain ⟨us2, hrun, hval⟩ := run_results R2 t1 c1.w f1.symm
    replace hval := nz_rel hval
    refine ⟨hds1, _, hrun, ?_⟩
    generalize resVal us2 = u at hval ⊢
    let atf : Ev.Id → Option (Nat × Nat) := fun b => match b with
      | .ext k => match E[k]? with | some _ => c2.at_ (.ext k) | none => c.at_ (.ext k)
      | .loc j 0 => (L[j]?).bind fun p => c2.at_ p.1
      | .loc _ (_ + 1) => none
    let szf : Ev.Id → Nat := fun b => match b with
      | .ext k => match E[k]? with | some _ => c2.sz (.ext k) | none => c.sz (.ext k)
      | .loc j 0 => match L[j]? with
        | some p => c2.sz p.1
        | none => 0
      | .loc _ (_ + 1) => 0
    let m' := m1D bs' nb
    let d : Cx := { w := c2.w, base := c.base, mu := fun k => omut k ∨ ∃ b x cap, (m' b).live = some x ∧ atf b = some (k, cap), at_ := atf, sz := szf, ver := fun b => (m' b).ver }
    have hLk : ∀ (j : Nat) (z : Cont), nb[j]? = some z → ∃ p y, L[j]? = some p ∧ (τ.m p.1).live = some y ∧ liftC (exp2 L E) y = some z ∧ atf (.loc j 0) = c2.at_ p.1 ∧ szf (.loc j 0) = c2.sz p.1 := by
      intro j z hz
      have hj : j < L.length := by rw [t3]; exact (List.getElem?_eq_some_iff.1 hz).1
      have hp : L[j]? = some L[j] := List.getElem?_eq_getElem hj
      obtain ⟨y, z', y1, y2, y3, _⟩ := t6 j _ hp
      have : z' = z := Option.some.inj (y2.symm.trans hz)
      subst this
      exact ⟨L[j], y, hp, by rw [y1], y3, by simp [atf, hp], by simp [szf, hp]⟩
    have hEk : ∀ (k : Nat) (v : Nat) (z : Cont), bs'[k]? = some (v, some z) → ∃ q y, E[k]? = some q ∧ q.2 = v ∧ τ.m (.ext k) = ⟨q.1, some y⟩ ∧ liftC (exp2 L E) y = some z ∧ (v = 0 → q.1 = 0) := by
      intro k v z hz
      have hk : k < E.length := by rw [t4', ← t4]; exact (List.getElem?_eq_some_iff.1 hz).1
      have hq : E[k]? = some E[k] := List.getElem?_eq_getElem hk
      obtain ⟨y, z', y1, y2, y3, y4⟩ := t9 k _ hq
      have e := Option.some.inj (y2.symm.trans hz)
      simp only [Prod.mk.injEq] at e
      obtain ⟨e1, e2⟩ := e
      obtain ⟨y', rfl, y5⟩ := y3 z e2
      exact ⟨E[k], y', hq, e1, y1, y5, fun h => y4 (e1.trans h)⟩
    have hatE : ∀ (k : Nat) (q : Nat × Nat), E[k]? = some q → atf (.ext k) = c2.at_ (.ext k) ∧ szf (.ext k) = c2.sz (.ext k) := fun k q hk => ⟨by simp [atf, hk], by simp [szf, hk]⟩
    have hmud : ∀ k, d.mu k → c2.mu k := by
      intro k hk
      refine (R2.mt k).2 ?_
      rcases hk with ho | ⟨b, x, cap, h1, h2⟩
      · exact .inl ho
      · match b, h1, h2 with
        | .ext j, h1, h2 =>
          simp only [m', m1D] at h1
          cases hb : bs'[j]? with
          | none => rw [hb] at h1; cases h1
          | some p =>
            rw [hb] at h1
            have h1' : p.2 = some x := h1
            obtain ⟨q, y, q1, q2, q3, q4, q5⟩ := hEk j p.1 x (by rw [hb, ← h1'])
            exact .inr ⟨.ext j, y, cap, by rw [q3], by rw [← (hatE j q q1).1]; exact h2⟩
        | .loc j 0, h1, h2 =>
          obtain ⟨p, y, e1, e2, e3, e4, e5⟩ := hLk j x h1
          exact .inr ⟨p.1, y, cap, e2, e4.symm.trans h2⟩
        | .loc j (i + 1), h1, h2 => cases h1
    have hver0 : ∀ b, c.ver b = 0 := fun b => by rw [hR.ver b]; cases b <;> rfl
    have hled : c.le d := by
      refine ⟨rfl, hle2.size, fun k hk hm => ?_, fun b => by rw [hver0]; exact Nat.zero_le _, fun b hb => ?_⟩
      · obtain ⟨k1, k2⟩ := hle2.kept k hk hm
        exact ⟨fun h => k1 (hmud k h), k2⟩
      · rw [hver0] at hb
        cases b with
        | ext k =>
          have hb' : 0 = (m' (.ext k)).ver := hb
          simp only [m', m1D] at hb'
          cases hq : E[k]? with
          | none => exact ⟨by simp [d, atf, hq], by simp [d, szf, hq]⟩
          | some q =>
            obtain ⟨y, z, y1, y2, y3, y4⟩ := t9 k q hq
            rw [y2] at hb'
            have hv : c.ver (.ext k) = c2.ver (.ext k) := by rw [R2.ver, y1, y4 hb'.symm, hver0]
            obtain ⟨s1, s2⟩ := hle2.same (.ext k) hv
            exact ⟨(hatE k q hq).1.trans s1, (hatE k q hq).2.trans s2⟩
        | loc n j =>
          have hb' : 0 = (m' (.loc n j)).ver := hb
          cases j <;> simp [m', m1D] at hb'
    have hM : Moves (exp2 L E) c2 d := by
      refine exp2_moves rfl (fun k hk hk' => hk (hmud k hk')) (fun j p hp => ?_) (fun k q hq => ?_)
      · obtain ⟨y, z, y1, y2, y3, _⟩ := t6 j p hp
        exact ⟨by rw [R2.ver, y1], rfl, by simp [d, atf, hp], by simp [d, szf, hp]⟩
      · obtain ⟨y, z, y1, y2, y3, y4⟩ := t9 k q hq
        exact ⟨by rw [R2.ver, y1], by simp [d, m', m1D, y2], (hatE k q hq).1, (hatE k q hq).2⟩
    refine ⟨u, d, rfl, f1, rfl, hled, hM.r t2 hval, ?_⟩
    constructor
    · exact fun i => .dead _
    · intro b; rfl
    · intro b x hx
      match b, hx with
      | .ext k, hx =>
        have hx' : ((m1D bs' nb) (.ext k)).live = some x := hx
        simp only [m1D] at hx'
        cases hb : bs'[k]? with
        | none => rw [hb] at hx'; cases hx'
        | some p =>
          rw [hb] at hx'
          have hx2 : p.2 = some x := hx'
          obtain ⟨q, y, q1, q2, q3, q4, q5⟩ := hEk k p.1 x (by rw [hb, ← hx2])
          have hB := R2.mem (.ext k) y (by rw [q3])
          exact hB.lift hM q4 (hatE k q q1).1 (hatE k q q1).2 rfl (fun k hk hk' => hk (hmud k hk')) (fun g cap ha => by have := (hB.lt ha).2; rw [hb2] at this; exact this)
      | .loc j 0, hx =>
        have hx' : nb[j]? = some x := hx
        obtain ⟨p, y, e1, e2, e3, e4, e5⟩ := hLk j x hx'
        have hB := R2.mem _ _ e2
        exact hB.lift hM e3 e4 e5 rfl (fun k hk hk' => hk (hmud k hk')) (fun g cap ha => by have := (hB.lt ha).2; rw [hb2] at this; exact this)
      | .loc j (i + 1), hx => cases hx
    · exact fun k => Iff.rfl
    · intro b b' x x' g cap cap' h1 h2 h3 h4
      have hone : ∀ (b : Ev.Id) (x : Cont) (cap : Nat), (m' b).live = some x → atf b = some (g, cap) → ∃ q y, (τ.m q).live = some y ∧ c2.at_ q = some (g, cap) ∧ ((∃ k, b = .ext k ∧ q = .ext k) ∨ ∃ j p, b = .loc j 0 ∧ L[j]? = some p ∧ q = p.1) := by
        intro b x cap h1 h3
        match b, h1, h3 with
        | .ext k, h1, h3 =>
          simp only [m', m1D] at h1
          cases hb : bs'[k]? with
          | none => rw [hb] at h1; cases h1
          | some p =>
            rw [hb] at h1
            have h1' : p.2 = some x := h1
            obtain ⟨q, y, q1, q2, q3, q4, q5⟩ := hEk k p.1 x (by rw [hb, ← h1'])
            exact ⟨.ext k, y, by rw [q3], by rw [← (hatE k q q1).1]; exact h3, .inl ⟨k, rfl, rfl⟩⟩
        | .loc j 0, h1, h3 =>
          obtain ⟨p, y, e1, e2, e3, e4, e5⟩ := hLk j x h1
          exact ⟨p.1, y, e2, e4.symm.trans h3, .inr ⟨j, p, rfl, e1, rfl⟩⟩
        | .loc j (i + 1), h1, h3 => cases h1
      obtain ⟨q, y, q1, q2, q3⟩ := hone b x cap h1 h3
      obtain ⟨q', y', r1, r2, r3⟩ := hone b' x' cap' h2 h4
      have he := R2.inj q q' y y' g cap cap' q1 r1 q2 r2
      rcases q3 with ⟨k, rfl, rfl⟩ | ⟨j, p, rfl, hp, rfl⟩
      · rcases r3 with ⟨k', rfl, rfl⟩ | ⟨j', p', rfl, hp', rfl⟩
        · exact he
        · obtain ⟨_, _, _, _, _, h5⟩ := t6 j' p' hp'
          exact absurd he.symm (h5 k)
      · rcases r3 with ⟨k', rfl, rfl⟩ | ⟨j', p', rfl, hp', rfl⟩
        · obtain ⟨_, _, _, _, _, h5⟩ := t6 j p hp
          exact absurd he (h5 k')
        · have hj : j < L.length := (List.getElem?_eq_some_iff.1 hp).1
          have hj' : j' < L.length := (List.getElem?_eq_some_iff.1 hp').1
          have h5 : (L.map (·.1))[j]'(by simpa using hj) = (L.map (·.1))[j']'(by simpa using hj') := by
            rw [List.getElem?_eq_getElem hj] at hp
            rw [List.getElem?_eq_getElem hj'] at hp'
            simp [Option.some.inj hp, Option.some.inj hp', he]
          rw [nodup_inj t5 (by simpa using hj) (by simpa using hj') h5]
    · exact R.om
    · have := R2.fr
      rw [hb2] at this
      exact this
    · have := R2.bs
      rw [hb2] at this
      exact this
    · exact R.fb
    · exact R.bw
  cases e with
  | normal => exact hfin hq
  | ret => exact hfin hq
  | _ => exact hq.elim
/-- A function's contract, from the walk through its text, the blocks that are handed in named in one another. -/
theorem denD_walk (hmix : P.follows .mixedOrders = true) {f : Nat} {fn : Func} {N : Nat} (hf : P.funcs[f]? = some fn) (hb : fn.body.isSome = true) (hd : dstOk N (bodyOf fn) = true) (hN : fn.ntmps = N) (ts : List ResultVar) (hts : fn.results.toList = ts) {args : List PV} {bs : List Cont} {r : PV} {nb : List Cont} {bs' : List (Nat × Option Cont)} (hn : args.length ≤ N)
    (h : Run P (fun σ => FinD P ts bs.length σ r nb bs') [.c (bodyOf fn)] (st0 args bs)) : DenD P f args bs r nb bs' := by
  have hbo : fn.body = some (bodyOf fn) := by
    unfold bodyOf
    cases hq : fn.body with
    | none => rw [hq] at hb; cases hb
    | some c => rfl
  subst hts
  refine denD_of_wp hmix ⟨hf, hbo, hd, hN⟩ hn ?_
  simp only [Run] at h
  refine cast ?_ h
  congr 1
  funext e τ
  cases e <;> simp only [Out]
end
end Go.Proofs.Ev
namespace Go.Proofs.Ev
open Go Go.RowKit
set_option linter.unusedVariables false
set_option linter.unusedSimpArgs false
set_option linter.unusedSectionVars false
@[go_sem] def idsOf (m : Ev.Id → Blk) : List Ev.Id → Option (List (Ev.Id × Nat) × List Cont)
  | [] => some ([], [])
  | b :: l => match m b with
    | ⟨v, some x⟩ => (idsOf m l).map fun p => ((b, v) :: p.1, x :: p.2)
    | ⟨_, none⟩ => none
theorem idsOf_get {m : Ev.Id → Blk} : ∀ {ids : List Ev.Id} {L : List (Ev.Id × Nat)} {bs : List Cont}, idsOf m ids = some (L, bs) → L.map (·.1) = ids ∧ bs.length = L.length ∧ ∀ (k : Nat) (p : Ev.Id × Nat), L[k]? = some p → (m p.1).ver = p.2 ∧ (m p.1).live = bs[k]?
  | [], L, bs, h => by cases h; simp
  | b :: l, L, bs, h => by
    simp only [idsOf] at h
    split at h
    · rename_i v x hm
      obtain ⟨p, hp, e⟩ := mapS h
      obtain ⟨i1, i2, i3⟩ := idsOf_get (L := p.1) (bs := p.2) hp
      cases e
      refine ⟨by simp [i1], by simp [i2], fun k q hk => ?_⟩
      cases k with
      | zero => cases hk; rw [hm]; exact ⟨rfl, rfl⟩
      | succ k => simpa using i3 k q (by simpa using hk)
    · cases h
@[go_sem] theorem app_m3 {σ : St} {d : Option Nat} {v : PV} {lk : List Ev.Id} {p q r : Ev.Id × Blk} {b : Ev.Id} : (σ.app d ⟨v, lk, [p, q, r]⟩).m b = if b = r.1 then r.2 else if b = q.1 then q.2 else if b = p.1 then p.2 else σ.m b := rfl
@[go_sem] theorem app_m4 {σ : St} {d : Option Nat} {v : PV} {lk : List Ev.Id} {p q r s : Ev.Id × Blk} {b : Ev.Id} : (σ.app d ⟨v, lk, [p, q, r, s]⟩).m b = if b = s.1 then s.2 else if b = r.1 then r.2 else if b = q.1 then q.2 else if b = p.1 then p.2 else σ.m b := rfl
@[go_sem] theorem app_m5 {σ : St} {d : Option Nat} {v : PV} {lk : List Ev.Id} {p q r s t : Ev.Id × Blk} {b : Ev.Id} : (σ.app d ⟨v, lk, [p, q, r, s, t]⟩).m b = if b = t.1 then t.2 else if b = s.1 then s.2 else if b = r.1 then r.2 else if b = q.1 then q.2 else if b = p.1 then p.2 else σ.m b := rfl
def boxC {α : Type} (x : α) : Option α := some x
theorem boxC_eq {α : Type} {x y : α} (h : boxC x = some y) : x = y := Option.some.inj h
section
variable {P : Program} [Tbl P] {Q : St → Prop} {k : List It} {σ : St}
theorem callD_mk {ids : List Ev.Id} {L : List (Ev.Id × Nat)} {bsC bs : List Cont} {dst g : Nat} {args as : List PV} {r rO : PV} {nb nbO : List Cont} {bsO : List (Option Cont)} {bs' : List (Nat × Option Cont)} (hD : DenD P g as bs r nb bs') (hids : idsOf σ.m ids = some (L, bsC)) (hnd : ids.Nodup) (hl : bs'.length = ids.length) (hloc : ∀ b ∈ ids, ∀ j, b ≠ .loc dst j) (has : liftL (liftA (in1 L)) args = some as) (hbs : liftCs (in1 L) bsC = some bs)
    (hrO : liftR (out1 L (bs'.map (·.1)) σ.m dst nb.length) r = some rO) (hnbO : liftCs (out1 L (bs'.map (·.1)) σ.m dst nb.length) nb = some nbO) (hbsO : liftOs (out1 L (bs'.map (·.1)) σ.m dst nb.length) (bs'.map (·.2)) = some bsO) (hok : okF P g = true) : CallD P σ dst g args (effD σ.m dst L (bs'.map (·.1)) rO nbO bsO) := by
  obtain ⟨i1, i2, i3⟩ := idsOf_get hids
  have hL : L.length = ids.length := by rw [← i1]; simp
  refine ⟨L, as, bsC, bs, r, nb, bs', rO, nbO, bsO, hok, has, i2, hl.trans hL.symm, by rw [i1]; exact hnd, fun k p hk => ⟨(i3 k p hk).1, (i3 k p hk).2, hloc p.1 (by rw [← i1]; exact List.mem_map_of_mem (List.mem_of_getElem? hk))⟩, hbs, hrO, hnbO, hbsO, hD, rfl⟩
theorem Run_xcall {ops os : List Oper} {o : Oper} {e : Eff} {f : Operand} {args : Array Operand} {ts : Array Nat} {g : Nat} {caps : List PV} (hop : o.op = .call { callee := .value f, args := args, argTypes := ts }) (hg : wantS ops σ o = some true) (hf : σ.ev f = .fn g caps)
    (h : CallD P σ (o.dst.getD 0) g (args.toList.map σ.ev ++ caps) e) (hr : Run P Q (.reg ops os :: k) (σ.app o.dst e)) : Run P Q (.reg ops (o :: os) :: k) σ := by
  simp only [Run, wpF] at hr ⊢
  refine ⟨σ, e, Gh.refl σ, .inl ⟨hg, ?_⟩, hr⟩
  show StepE P σ o _
  unfold StepE
  rw [hop]
  simp only
  rw [hf]
  exact .inr (.inl h)
/-- A call that hands in blocks, ids by name. -/
theorem RX (ids : List Ev.Id) {L : List (Ev.Id × Nat)} {bsC bs : List Cont} {g : Nat} {as : List PV} {r rO : PV} {nb nbO : List Cont} {bsO : List (Option Cont)} {bs' : List (Nat × Option Cont)} {wr : List (Ev.Id × Blk)} (hD : DenD P g as bs r nb bs') {ops os : List Oper} {o : Oper} {f : Operand} {args : Array Operand} {ts : Array Nat} {caps : List PV} {d : Option Nat} (hr : Run P Q (.reg ops os :: k) (σ.app d ⟨rO, [], wr⟩))
    (hdst : o.dst = d := by first | exact (rfl : some _ = some _) | exact (rfl : none = none))
    (hop : o.op = .call { callee := .value f, args := args, argTypes := ts } := by exact rfl)
    (hids : idsOf σ.m ids = some (L, bsC) := by (simp (disch := omega) only [idsOf, ↓reduceIte, ↓nxt, ↓wantS.eq_def, ↓opF, ↓St.ev.eq_def, ↓app_t, ↓app_m0, ↓app_m1, ↓app_m2, go_sem, *, reduceIte, ite_true, ite_false, Nat.reduceEqDiff, Nat.reduceAdd, Nat.reduceSub, Nat.reduceMul, Nat.reduceLT, Nat.reduceLeDiff, Nat.reduceBEq, Int.reduceToNat, Int.reduceLT, Int.reduceLE, Int.reduceAdd, Int.reduceSub, Int.reduceNeg, Int.reduceBEq, Int.reduceEq, reduceCtorEq, ge_iff_le, gt_iff_lt]; first | done | exact rfl | fail))
    (hnd : ids.Nodup := by decide)
    (hl : bs'.length = ids.length := by exact rfl)
    (hloc : ∀ b ∈ ids, ∀ j, b ≠ .loc (d.getD 0) j := by (intro b hb j; simp only [List.mem_cons, List.not_mem_nil, or_false] at hb; repeat' (rcases hb with hb | hb); all_goals (subst hb; simp only [ne_eq, Id.loc.injEq, reduceCtorEq, not_false_eq_true, Option.getD_some, Option.getD_none, Nat.reduceEqDiff, false_and])))
    (hg : wantS ops σ o = some true := by (simp (disch := omega) only [↓reduceIte, ↓nxt, ↓wantS.eq_def, ↓opF, ↓St.ev.eq_def, ↓app_t, ↓app_m0, ↓app_m1, ↓app_m2, go_sem, *, reduceIte, ite_true, ite_false, Nat.reduceEqDiff, reduceCtorEq]; first | done | exact rfl))
    (hf : σ.ev f = .fn g caps := by (simp (disch := omega) only [↓reduceIte, ↓nxt, ↓wantS.eq_def, ↓opF, ↓St.ev.eq_def, ↓app_t, ↓app_m0, ↓app_m1, ↓app_m2, go_sem, *, reduceIte, ite_true, ite_false, Nat.reduceEqDiff, reduceCtorEq]; first | done | exact rfl))
    (has : liftL (liftA (in1 L)) (args.toList.map σ.ev ++ caps) = some as := by (simp (disch := omega) only [liftL, liftF.eq_def, liftA.eq_def, liftR.eq_def, liftLL, liftC.eq_def, liftCs, liftOs, in1.eq_def, out1.eq_def, exp2.eq_def, posOf.eq_def, Nat.add_zero, Nat.zero_add, ↓reduceIte, ↓nxt, ↓wantS.eq_def, ↓opF, ↓St.ev.eq_def, ↓app_t, ↓app_m0, ↓app_m1, ↓app_m2, go_sem, *, reduceIte, ite_true, ite_false, Nat.reduceEqDiff, Nat.reduceAdd, Nat.reduceSub, Nat.reduceMul, Nat.reduceLT, Nat.reduceLeDiff, Nat.reduceBEq, Int.reduceToNat, Int.reduceLT, Int.reduceLE, Int.reduceAdd, Int.reduceSub, Int.reduceNeg, Int.reduceBEq, Int.reduceEq, reduceCtorEq, ge_iff_le, gt_iff_lt]; first | done | exact rfl | fail))
    (hbs : liftCs (in1 L) bsC = some bs := by (simp (disch := omega) only [liftL, liftF.eq_def, liftA.eq_def, liftR.eq_def, liftLL, liftC.eq_def, liftCs, liftOs, in1.eq_def, out1.eq_def, exp2.eq_def, posOf.eq_def, Nat.add_zero, Nat.zero_add, ↓reduceIte, ↓nxt, ↓wantS.eq_def, ↓opF, ↓St.ev.eq_def, ↓app_t, ↓app_m0, ↓app_m1, ↓app_m2, go_sem, *, reduceIte, ite_true, ite_false, Nat.reduceEqDiff, Nat.reduceAdd, Nat.reduceSub, Nat.reduceMul, Nat.reduceLT, Nat.reduceLeDiff, Nat.reduceBEq, Int.reduceToNat, Int.reduceLT, Int.reduceLE, Int.reduceAdd, Int.reduceSub, Int.reduceNeg, Int.reduceBEq, Int.reduceEq, reduceCtorEq, ge_iff_le, gt_iff_lt]; first | done | exact rfl | fail))
    (hrO : liftR (out1 L (bs'.map (·.1)) σ.m (d.getD 0) nb.length) r = some rO := by (simp (disch := omega) only [liftL, liftF.eq_def, liftA.eq_def, liftR.eq_def, liftLL, liftC.eq_def, liftCs, liftOs, in1.eq_def, out1.eq_def, exp2.eq_def, posOf.eq_def, Nat.add_zero, Nat.zero_add, ↓reduceIte, ↓nxt, ↓wantS.eq_def, ↓opF, ↓St.ev.eq_def, ↓app_t, ↓app_m0, ↓app_m1, ↓app_m2, go_sem, *, reduceIte, ite_true, ite_false, Nat.reduceEqDiff, Nat.reduceAdd, Nat.reduceSub, Nat.reduceMul, Nat.reduceLT, Nat.reduceLeDiff, Nat.reduceBEq, Int.reduceToNat, Int.reduceLT, Int.reduceLE, Int.reduceAdd, Int.reduceSub, Int.reduceNeg, Int.reduceBEq, Int.reduceEq, reduceCtorEq, ge_iff_le, gt_iff_lt]; first | done | exact rfl | fail))
    (hnbO : liftCs (out1 L (bs'.map (·.1)) σ.m (d.getD 0) nb.length) nb = some nbO := by (simp (disch := omega) only [liftL, liftF.eq_def, liftA.eq_def, liftR.eq_def, liftLL, liftC.eq_def, liftCs, liftOs, in1.eq_def, out1.eq_def, exp2.eq_def, posOf.eq_def, Nat.add_zero, Nat.zero_add, ↓reduceIte, ↓nxt, ↓wantS.eq_def, ↓opF, ↓St.ev.eq_def, ↓app_t, ↓app_m0, ↓app_m1, ↓app_m2, go_sem, *, reduceIte, ite_true, ite_false, Nat.reduceEqDiff, Nat.reduceAdd, Nat.reduceSub, Nat.reduceMul, Nat.reduceLT, Nat.reduceLeDiff, Nat.reduceBEq, Int.reduceToNat, Int.reduceLT, Int.reduceLE, Int.reduceAdd, Int.reduceSub, Int.reduceNeg, Int.reduceBEq, Int.reduceEq, reduceCtorEq, ge_iff_le, gt_iff_lt]; first | done | exact rfl | fail))
    (hbsO : liftOs (out1 L (bs'.map (·.1)) σ.m (d.getD 0) nb.length) (bs'.map (·.2)) = some bsO := by (simp (disch := omega) only [liftL, liftF.eq_def, liftA.eq_def, liftR.eq_def, liftLL, liftC.eq_def, liftCs, liftOs, in1.eq_def, out1.eq_def, exp2.eq_def, posOf.eq_def, Nat.add_zero, Nat.zero_add, ↓reduceIte, ↓nxt, ↓wantS.eq_def, ↓opF, ↓St.ev.eq_def, ↓app_t, ↓app_m0, ↓app_m1, ↓app_m2, go_sem, *, reduceIte, ite_true, ite_false, Nat.reduceEqDiff, Nat.reduceAdd, Nat.reduceSub, Nat.reduceMul, Nat.reduceLT, Nat.reduceLeDiff, Nat.reduceBEq, Int.reduceToNat, Int.reduceLT, Int.reduceLE, Int.reduceAdd, Int.reduceSub, Int.reduceNeg, Int.reduceBEq, Int.reduceEq, reduceCtorEq, ge_iff_le, gt_iff_lt]; first | done | exact rfl | fail))
    (hwr : boxC (effD σ.m (d.getD 0) L (bs'.map (·.1)) rO nbO bsO).wr = some wr := by (simp (disch := omega) only [boxC, effD, List.zip_cons_cons, List.zip_nil_left, List.zip_nil_right, List.zipIdx_cons, List.zipIdx_nil, Nat.add_zero, Nat.zero_add, ↓reduceIte, ↓nxt, ↓wantS.eq_def, ↓opF, ↓St.ev.eq_def, ↓app_t, ↓app_m0, ↓app_m1, ↓app_m2, go_sem, *, reduceIte, ite_true, ite_false, Nat.reduceEqDiff, Nat.reduceAdd, Nat.reduceSub, Nat.reduceMul, Nat.reduceLT, Nat.reduceLeDiff, Nat.reduceBEq, Int.reduceToNat, Int.reduceLT, Int.reduceLE, Int.reduceAdd, Int.reduceSub, Int.reduceNeg, Int.reduceBEq, Int.reduceEq, reduceCtorEq, ge_iff_le, gt_iff_lt]; first | done | exact rfl | fail))
    (hok : okF P g = true := by first | assumption | exact (by kernel_rfl)) : Run P Q (.reg ops (o :: os) :: k) σ := by
  subst hdst
  refine Run_xcall hop hg hf (callD_mk hD hids hnd hl hloc has hbs hrO hnbO hbsO hok) ?_
  have e : σ.app o.dst (effD σ.m (o.dst.getD 0) L (bs'.map (·.1)) rO nbO bsO) = σ.app o.dst ⟨rO, [], wr⟩ := app_eq rfl (boxC_eq hwr)
  rw [e]
  exact hr
/-- The end of a function that was handed blocks that name each other: one, two, three of them. -/
theorem FD1 {ts : List ResultVar} {vals : List PV} {r : PV} {v0 c0 : Nat} {y0 z0 : Cont}
    (hm0 : σ.m (.ext 0) = ⟨v0, some y0⟩ := by (simp (disch := omega) only [Nat.add_zero, ↓reduceIte, ↓nxt, ↓wantS.eq_def, ↓opF, ↓St.ev.eq_def, ↓app_t, ↓app_m0, ↓app_m1, ↓app_m2, go_sem, *, reduceIte, ite_true, ite_false, Nat.reduceEqDiff, Nat.reduceAdd, Nat.reduceSub, Nat.reduceMul, Nat.reduceLT, Nat.reduceLeDiff, Nat.reduceBEq, Int.reduceToNat, Int.reduceLT, Int.reduceLE, Int.reduceAdd, Int.reduceSub, Int.reduceNeg, Int.reduceBEq, Int.reduceEq, reduceCtorEq, ge_iff_le, gt_iff_lt]; first | done | exact rfl | fail))
    (hv : resL P σ ts = some vals := by (simp (disch := omega) only [↓reduceIte, ↓nxt, ↓wantS.eq_def, ↓opF, ↓St.ev.eq_def, ↓app_t, ↓app_m0, ↓app_m1, ↓app_m2, go_sem, *, resL.eq_def, cellV, reduceIte, ite_true, ite_false, Nat.reduceEqDiff, Nat.reduceAdd, Nat.reduceSub, Nat.reduceMul, Nat.reduceLT, Nat.reduceLeDiff, Nat.reduceBEq, Int.reduceToNat, Int.reduceLT, Int.reduceLE, Int.reduceAdd, Int.reduceSub, Int.reduceNeg, Int.reduceBEq, Int.reduceEq, reduceCtorEq, ge_iff_le, gt_iff_lt]; first | done | exact rfl))
    (h : liftR (exp2 [] [(v0, c0)]) (nz (resV vals)) = some r := by (simp (disch := omega) only [liftL, liftF.eq_def, liftA.eq_def, liftR.eq_def, liftLL, liftC.eq_def, liftCs, liftOs, in1.eq_def, out1.eq_def, exp2.eq_def, posOf.eq_def, Nat.add_zero, Nat.zero_add, resV.eq_def, nz.eq_def, nzA.eq_def, nz1.eq_def, ↓reduceIte, ↓nxt, ↓wantS.eq_def, ↓opF, ↓St.ev.eq_def, ↓app_t, ↓app_m0, ↓app_m1, ↓app_m2, go_sem, *, reduceIte, ite_true, ite_false, Nat.reduceEqDiff, Nat.reduceAdd, Nat.reduceSub, Nat.reduceMul, Nat.reduceLT, Nat.reduceLeDiff, Nat.reduceBEq, Int.reduceToNat, Int.reduceLT, Int.reduceLE, Int.reduceAdd, Int.reduceSub, Int.reduceNeg, Int.reduceBEq, Int.reduceEq, reduceCtorEq, ge_iff_le, gt_iff_lt]; first | done | exact rfl | fail))
    (hz0 : liftC (exp2 [] [(v0, c0)]) y0 = some z0 := by (simp (disch := omega) only [liftL, liftF.eq_def, liftA.eq_def, liftR.eq_def, liftLL, liftC.eq_def, liftCs, liftOs, in1.eq_def, out1.eq_def, exp2.eq_def, posOf.eq_def, Nat.add_zero, Nat.zero_add, ↓reduceIte, ↓nxt, ↓wantS.eq_def, ↓opF, ↓St.ev.eq_def, ↓app_t, ↓app_m0, ↓app_m1, ↓app_m2, go_sem, *, reduceIte, ite_true, ite_false, Nat.reduceEqDiff, Nat.reduceAdd, Nat.reduceSub, Nat.reduceMul, Nat.reduceLT, Nat.reduceLeDiff, Nat.reduceBEq, Int.reduceToNat, Int.reduceLT, Int.reduceLE, Int.reduceAdd, Int.reduceSub, Int.reduceNeg, Int.reduceBEq, Int.reduceEq, reduceCtorEq, ge_iff_le, gt_iff_lt]; first | done | exact rfl | fail))
    (hc0 : c0 = 0 → v0 = 0 := by first | exact (fun _ => rfl) | exact (fun h => by cases h) | omega) : FinD P ts 1 σ r [] [(c0, some z0)] :=
  ⟨σ, [], [(v0, c0)], vals, Gh.refl σ, hv, h, rfl, rfl, rfl, List.nodup_nil, by simp, fun k q hq => by
    match k, hq with
    | 0, hq => cases hq; exact ⟨some y0, some z0, hm0, rfl, fun z' e => (by cases e; exact ⟨y0, rfl, hz0⟩), hc0⟩⟩
theorem FD2 {ts : List ResultVar} {vals : List PV} {r : PV} {v0 c0 v1 c1 : Nat} {y0 z0 y1 z1 : Cont}
    (hm0 : σ.m (.ext 0) = ⟨v0, some y0⟩ := by (simp (disch := omega) only [Nat.add_zero, ↓reduceIte, ↓nxt, ↓wantS.eq_def, ↓opF, ↓St.ev.eq_def, ↓app_t, ↓app_m0, ↓app_m1, ↓app_m2, go_sem, *, reduceIte, ite_true, ite_false, Nat.reduceEqDiff, Nat.reduceAdd, Nat.reduceSub, Nat.reduceMul, Nat.reduceLT, Nat.reduceLeDiff, Nat.reduceBEq, Int.reduceToNat, Int.reduceLT, Int.reduceLE, Int.reduceAdd, Int.reduceSub, Int.reduceNeg, Int.reduceBEq, Int.reduceEq, reduceCtorEq, ge_iff_le, gt_iff_lt]; first | done | exact rfl | fail))
    (hm1 : σ.m (.ext 1) = ⟨v1, some y1⟩ := by (simp (disch := omega) only [Nat.add_zero, ↓reduceIte, ↓nxt, ↓wantS.eq_def, ↓opF, ↓St.ev.eq_def, ↓app_t, ↓app_m0, ↓app_m1, ↓app_m2, go_sem, *, reduceIte, ite_true, ite_false, Nat.reduceEqDiff, Nat.reduceAdd, Nat.reduceSub, Nat.reduceMul, Nat.reduceLT, Nat.reduceLeDiff, Nat.reduceBEq, Int.reduceToNat, Int.reduceLT, Int.reduceLE, Int.reduceAdd, Int.reduceSub, Int.reduceNeg, Int.reduceBEq, Int.reduceEq, reduceCtorEq, ge_iff_le, gt_iff_lt]; first | done | exact rfl | fail))
    (hv : resL P σ ts = some vals := by (simp (disch := omega) only [↓reduceIte, ↓nxt, ↓wantS.eq_def, ↓opF, ↓St.ev.eq_def, ↓app_t, ↓app_m0, ↓app_m1, ↓app_m2, go_sem, *, resL.eq_def, cellV, reduceIte, ite_true, ite_false, Nat.reduceEqDiff, Nat.reduceAdd, Nat.reduceSub, Nat.reduceMul, Nat.reduceLT, Nat.reduceLeDiff, Nat.reduceBEq, Int.reduceToNat, Int.reduceLT, Int.reduceLE, Int.reduceAdd, Int.reduceSub, Int.reduceNeg, Int.reduceBEq, Int.reduceEq, reduceCtorEq, ge_iff_le, gt_iff_lt]; first | done | exact rfl))
    (h : liftR (exp2 [] [(v0, c0), (v1, c1)]) (nz (resV vals)) = some r := by (simp (disch := omega) only [liftL, liftF.eq_def, liftA.eq_def, liftR.eq_def, liftLL, liftC.eq_def, liftCs, liftOs, in1.eq_def, out1.eq_def, exp2.eq_def, posOf.eq_def, Nat.add_zero, Nat.zero_add, resV.eq_def, nz.eq_def, nzA.eq_def, nz1.eq_def, ↓reduceIte, ↓nxt, ↓wantS.eq_def, ↓opF, ↓St.ev.eq_def, ↓app_t, ↓app_m0, ↓app_m1, ↓app_m2, go_sem, *, reduceIte, ite_true, ite_false, Nat.reduceEqDiff, Nat.reduceAdd, Nat.reduceSub, Nat.reduceMul, Nat.reduceLT, Nat.reduceLeDiff, Nat.reduceBEq, Int.reduceToNat, Int.reduceLT, Int.reduceLE, Int.reduceAdd, Int.reduceSub, Int.reduceNeg, Int.reduceBEq, Int.reduceEq, reduceCtorEq, ge_iff_le, gt_iff_lt]; first | done | exact rfl | fail))
    (hz0 : liftC (exp2 [] [(v0, c0), (v1, c1)]) y0 = some z0 := by (simp (disch := omega) only [liftL, liftF.eq_def, liftA.eq_def, liftR.eq_def, liftLL, liftC.eq_def, liftCs, liftOs, in1.eq_def, out1.eq_def, exp2.eq_def, posOf.eq_def, Nat.add_zero, Nat.zero_add, ↓reduceIte, ↓nxt, ↓wantS.eq_def, ↓opF, ↓St.ev.eq_def, ↓app_t, ↓app_m0, ↓app_m1, ↓app_m2, go_sem, *, reduceIte, ite_true, ite_false, Nat.reduceEqDiff, Nat.reduceAdd, Nat.reduceSub, Nat.reduceMul, Nat.reduceLT, Nat.reduceLeDiff, Nat.reduceBEq, Int.reduceToNat, Int.reduceLT, Int.reduceLE, Int.reduceAdd, Int.reduceSub, Int.reduceNeg, Int.reduceBEq, Int.reduceEq, reduceCtorEq, ge_iff_le, gt_iff_lt]; first | done | exact rfl | fail))
    (hz1 : liftC (exp2 [] [(v0, c0), (v1, c1)]) y1 = some z1 := by (simp (disch := omega) only [liftL, liftF.eq_def, liftA.eq_def, liftR.eq_def, liftLL, liftC.eq_def, liftCs, liftOs, in1.eq_def, out1.eq_def, exp2.eq_def, posOf.eq_def, Nat.add_zero, Nat.zero_add, ↓reduceIte, ↓nxt, ↓wantS.eq_def, ↓opF, ↓St.ev.eq_def, ↓app_t, ↓app_m0, ↓app_m1, ↓app_m2, go_sem, *, reduceIte, ite_true, ite_false, Nat.reduceEqDiff, Nat.reduceAdd, Nat.reduceSub, Nat.reduceMul, Nat.reduceLT, Nat.reduceLeDiff, Nat.reduceBEq, Int.reduceToNat, Int.reduceLT, Int.reduceLE, Int.reduceAdd, Int.reduceSub, Int.reduceNeg, Int.reduceBEq, Int.reduceEq, reduceCtorEq, ge_iff_le, gt_iff_lt]; first | done | exact rfl | fail))
    (hc0 : c0 = 0 → v0 = 0 := by first | exact (fun _ => rfl) | exact (fun h => by cases h) | omega)
    (hc1 : c1 = 0 → v1 = 0 := by first | exact (fun _ => rfl) | exact (fun h => by cases h) | omega) : FinD P ts 2 σ r [] [(c0, some z0), (c1, some z1)] :=
  ⟨σ, [], [(v0, c0), (v1, c1)], vals, Gh.refl σ, hv, h, rfl, rfl, rfl, List.nodup_nil, by simp, fun k q hq => by
    match k, hq with
    | 0, hq => cases hq; exact ⟨some y0, some z0, hm0, rfl, fun z' e => (by cases e; exact ⟨y0, rfl, hz0⟩), hc0⟩
    | 1, hq => cases hq; exact ⟨some y1, some z1, hm1, rfl, fun z' e => (by cases e; exact ⟨y1, rfl, hz1⟩), hc1⟩⟩
end
end Go.Proofs.Ev
namespace Go.Proofs.Ev
open Go
set_option linter.unusedVariables false
set_option linter.unusedSimpArgs false
section
variable {P : Program} [Tbl P] {σ : St}
/-- The end of a function that hands out a row that is no longer written, and leaves the block that it was handed so. -/
theorem FZP (b : Id) {ts : List ResultVar} {vals : List PV} {r : PV} {fl : Bool} {e sz : Nat} {rs : List (List PV)} {v : Nat} {y : Cont} (hl : σ.m b = ⟨v, some (.rows fl e sz rs)⟩ := by (simp (disch := omega) only [↓reduceIte, ↓nxt, ↓wantS.eq_def, ↓opF, ↓St.ev.eq_def, ↓app_t, ↓app_m0, ↓app_m1, ↓app_m2, go_sem, *, reduceIte, ite_true, ite_false, Nat.reduceEqDiff, Nat.reduceAdd, Nat.reduceSub, Nat.reduceMul, Nat.reduceLT, Nat.reduceLeDiff, Nat.reduceBEq, Int.reduceToNat, Int.reduceLT, Int.reduceLE, Int.reduceAdd, Int.reduceSub, Int.reduceNeg, Int.reduceBEq, Int.reduceEq, reduceCtorEq, ge_iff_le, gt_iff_lt]; first | done | exact rfl))
    (hv : resL P σ ts = some vals := by (simp (disch := omega) only [↓reduceIte, ↓nxt, ↓wantS.eq_def, ↓opF, ↓St.ev.eq_def, ↓app_t, ↓app_m0, ↓app_m1, ↓app_m2, go_sem, *, resL.eq_def, cellV, reduceIte, ite_true, ite_false, Nat.reduceEqDiff, Nat.reduceAdd, Nat.reduceSub, Nat.reduceMul, Nat.reduceLT, Nat.reduceLeDiff, Nat.reduceBEq, Int.reduceToNat, Int.reduceLT, Int.reduceLE, Int.reduceAdd, Int.reduceSub, Int.reduceNeg, Int.reduceBEq, Int.reduceEq, reduceCtorEq, ge_iff_le, gt_iff_lt]; first | done | exact rfl))
    (ho : offB σ b ts = true := by first | exact rfl | (simp (disch := omega) only [↓reduceIte, ↓nxt, ↓wantS.eq_def, ↓opF, ↓St.ev.eq_def, ↓app_t, ↓app_m0, ↓app_m1, ↓app_m2, go_sem, *, offB.eq_def, ne_eq, reduceIte, ite_true, ite_false, Nat.reduceEqDiff, Nat.reduceAdd, Nat.reduceSub, Nat.reduceMul, Nat.reduceLT, Nat.reduceLeDiff, Nat.reduceBEq, Int.reduceToNat, Int.reduceLT, Int.reduceLE, Int.reduceAdd, Int.reduceSub, Int.reduceNeg, Int.reduceBEq, Int.reduceEq, reduceCtorEq, ge_iff_le, gt_iff_lt]; first | done | exact rfl))
    (hfl : fl = true ∨ (rs.all fun r => r.all PV.sf) = true := by first | exact .inl rfl | exact .inr rfl | (refine .inr ?_; simp only [go_sem, *]; first | done | fail))
    (h : expR [] (nz (resV (vals.map (frzV b v rs)))) = some r := by (simp (disch := omega) only [↓reduceIte, ↓nxt, ↓wantS.eq_def, ↓opF, ↓St.ev.eq_def, ↓app_t, ↓app_m0, ↓app_m1, ↓app_m2, go_sem, *, resV.eq_def, nz.eq_def, nzA.eq_def, nz1.eq_def, expR.eq_def, expA.eq_def, expAL, exp1.eq_def, exp1L, posOf.eq_def, reduceIte, ite_true, ite_false, Nat.reduceEqDiff, Nat.reduceAdd, Nat.reduceSub, Nat.reduceMul, Nat.reduceLT, Nat.reduceLeDiff, Nat.reduceBEq, Int.reduceToNat, Int.reduceLT, Int.reduceLE, Int.reduceAdd, Int.reduceSub, Int.reduceNeg, Int.reduceBEq, Int.reduceEq, reduceCtorEq, ge_iff_le, gt_iff_lt]; first | done | exact rfl))
    (hm : frzM σ.m b v rs (.ext 0) = ⟨0, some y⟩ := by (simp (disch := omega) only [↓reduceIte, ↓nxt, ↓wantS.eq_def, ↓opF, ↓St.ev.eq_def, ↓app_t, ↓app_m0, ↓app_m1, ↓app_m2, go_sem, *, reduceIte, ite_true, ite_false, Nat.reduceEqDiff, Nat.reduceAdd, Nat.reduceSub, Nat.reduceMul, Nat.reduceLT, Nat.reduceLeDiff, Nat.reduceBEq, Int.reduceToNat, Int.reduceLT, Int.reduceLE, Int.reduceAdd, Int.reduceSub, Int.reduceNeg, Int.reduceBEq, Int.reduceEq, reduceCtorEq, ge_iff_le, gt_iff_lt]; first | done | exact rfl))
    (hy : flatC y = true := by first | exact rfl | (simp only [go_sem, flatC, *]; first | done | fail)) : FinT P ts 1 σ r [] [y] := by
  have e1 : σ.frzL [b] = ⟨fun i => frzV b v rs (σ.t i), frzM σ.m b v rs⟩ := by
    show σ.frz b = _
    unfold St.frz
    rw [hl]
    simp only
    rw [if_pos hfl]
  refine ⟨σ.frzL [b], [], _, Gh.frz σ [b], by rw [e1]; exact resL_frz hl hv ho, h, rfl, rfl, List.nodup_nil, by simp, rfl, by simp [hy], fun k hk => ?_⟩
  cases k with
  | zero => rw [e1]; exact hm
  | succ k => omega
end
end Go.Proofs.Ev
namespace Go.Proofs.Ev
open Go Go.RowKit
set_option linter.unusedVariables false
set_option linter.unusedSimpArgs false
set_option linter.unusedSectionVars false
/-- What is reckoned. -/
theorem q_ {α : Type} {a b : α} (h : a = b := by (simp (disch := omega) only [↓reduceIte, ↓nxt, ↓wantS.eq_def, ↓opF, ↓St.ev.eq_def, ↓app_t, ↓app_m0, ↓app_m1, ↓app_m2, go_sem, *, reduceIte, ite_true, ite_false, Nat.reduceEqDiff, Nat.reduceAdd, Nat.reduceSub, Nat.reduceMul, Nat.reduceLT, Nat.reduceLeDiff, Nat.reduceBEq, Int.reduceToNat, Int.reduceLT, Int.reduceLE, Int.reduceAdd, Int.reduceSub, Int.reduceNeg, Int.reduceBEq, Int.reduceEq, reduceCtorEq, List.take_succ_cons, List.take_nil, List.drop_succ_cons, List.drop_nil, ge_iff_le, gt_iff_lt]; first | done | exact rfl | fail)) : a = b := h
theorem opX_ne {P : Program} {σ : St} {o : Oper} {e : Eff} (h : OpX P σ o e) (f : Operand) (args : Array Operand) (ts : Array Nat) (k : o.op = .call { callee := .value f, args := args, argTypes := ts }) : False := by
  cases h with
  | sdata hop => rw [hop] at k; cases k
  | ustr hop => rw [hop] at k; cases k
  | sdataN hop => rw [hop] at k; cases k
  | ustrN hop => rw [hop] at k; cases k
  | convRS hop => rw [hop] at k; cases k
  | convOS hop => rw [hop] at k; cases k
  | convSR hop => rw [hop] at k; cases k
  | slice3R hop => rw [hop] at k; cases k
  | slice3N hop => rw [hop] at k; cases k
  | clip hop => rw [hop] at k; cases k
  | unxor hop => rw [hop] at k; cases k
  | aidx hop => rw [hop] at k; cases k
  | aadr hop => rw [hop] at k; cases k
  | peq hop => rw [hop] at k; cases k
  | peqN hop => rw [hop] at k; cases k
  | ieqN hop => rw [hop] at k; cases k
  | ieqF hop => rw [hop] at k; cases k
  | appZ hop => rw [hop] at k; cases k
  | psame hop => rw [hop] at k; cases k
section
variable {P : Program} [Tbl P] {Q : St → Prop} {k : List It} {σ : St}
theorem stepX {o : Oper} {e : Eff} (h : OpX P σ o e) : StepE P σ o e := by
  unfold StepE
  split
  · rename_i f args ts hop
    exact (opX_ne h f args ts hop).elim
  · exact .inr h
/-- One operation that is told by itself. -/
theorem RO {ops os : List Oper} {o : Oper} {e : Eff} {d : Option Nat} (h : OpX P σ o e) (hr : Run P Q (.reg ops os :: k) (σ.app d e))
    (hdst : o.dst = d := by first | exact (rfl : some _ = some _) | exact (rfl : none = none))
    (hg : wantS ops σ o = some true := by (simp (disch := omega) only [↓reduceIte, ↓nxt, ↓wantS.eq_def, ↓opF, ↓St.ev.eq_def, ↓app_t, ↓app_m0, ↓app_m1, ↓app_m2, go_sem, *, reduceIte, ite_true, ite_false, Nat.reduceEqDiff, Nat.reduceAdd, Nat.reduceSub, Nat.reduceMul, Nat.reduceLT, Nat.reduceLeDiff, Nat.reduceBEq, Int.reduceToNat, Int.reduceLT, Int.reduceLE, Int.reduceAdd, Int.reduceSub, Int.reduceNeg, Int.reduceBEq, Int.reduceEq, reduceCtorEq, List.take_succ_cons, List.take_nil, List.drop_succ_cons, List.drop_nil, ge_iff_le, gt_iff_lt]; first | done | exact rfl | fail)) : Run P Q (.reg ops (o :: os) :: k) σ := by
  subst hdst
  simp only [Run, wpF] at hr ⊢
  exact ⟨σ, e, Gh.refl σ, .inl ⟨hg, stepX h⟩, hr⟩
theorem DO {ops os : List Oper} {o : Oper} {e : Eff} {d : Option Nat} {log : List (List Ev.Id × List Ev.Id)} {r w : List Ev.Id} {xs : List Operand} (h : OpX P σ o e) (hr : Run P Q (.drw ops os (log ++ [(r, w)]) :: k) (σ.app d e))
    (hn : isMove o.op = false := by exact rfl)
    (hdst : o.dst = d := by first | exact (rfl : some _ = some _) | exact (rfl : none = none))
    (hg : wantS ops σ o = some true := by (simp (disch := omega) only [↓reduceIte, ↓nxt, ↓wantS.eq_def, ↓opF, ↓St.ev.eq_def, ↓app_t, ↓app_m0, ↓app_m1, ↓app_m2, go_sem, *, reduceIte, ite_true, ite_false, Nat.reduceEqDiff, Nat.reduceAdd, Nat.reduceSub, Nat.reduceMul, Nat.reduceLT, Nat.reduceLeDiff, Nat.reduceBEq, Int.reduceToNat, Int.reduceLT, Int.reduceLE, Int.reduceAdd, Int.reduceSub, Int.reduceNeg, Int.reduceBEq, Int.reduceEq, reduceCtorEq, List.take_succ_cons, List.take_nil, List.drop_succ_cons, List.drop_nil, ge_iff_le, gt_iff_lt]; first | done | exact rfl | fail))
    (h2 : e.wr.map (·.1) = w := by exact rfl)
    (hxs : boxO o.op.operands.toList = some xs := by (simp only [boxO, Op.operands, Call.operands, Array.toList_append, List.toList_toArray, List.map_cons, List.map_nil, List.append_nil, List.nil_append, List.cons_append, Option.toList, Option.toArray, Option.some.injEq, Array.toArray_toList]; first | done | exact rfl))
    (h1 : boxL ((xs.map σ.ev).flatMap refsC) = some r := by (simp (disch := omega) only [↓reduceIte, ↓St.ev.eq_def, ↓app_t, go_sem, *, boxL, refsC.eq_def, refs.eq_def, List.flatMap_cons, List.flatMap_nil, List.nil_append, List.append_nil, List.cons_append, List.map_cons, List.map_nil, reduceIte, ite_true, ite_false, Nat.reduceEqDiff, reduceCtorEq]; first | done | exact rfl)) : Run P Q (.drw ops (o :: os) log :: k) σ := by
  subst hdst h2
  simp only [Run, wpD] at hr ⊢
  refine ⟨e, .inl ⟨hg, stepX h⟩, ?_⟩
  rw [(refsOf_of (boxO_eq hxs) hn).trans (boxL_eq h1)]
  exact hr
/-- The state, told otherwise. -/
theorem RGh {ops os : List Oper} {o : Oper} {τ : St} (hg : Gh σ τ) (hr : Run P Q (.reg ops (o :: os) :: k) τ) : Run P Q (.reg ops (o :: os) :: k) σ := by
  simp only [Run, wpF] at hr ⊢
  obtain ⟨υ, e, h0, h1, h2⟩ := hr
  exact ⟨υ, e, hg.trans h0, h1, h2⟩
theorem FGh {ts : List ResultVar} {nbs : Nat} {τ : St} {r : PV} {nb bs' : List Cont} (hg : Gh σ τ) (h : FinT P ts nbs τ r nb bs') : FinT P ts nbs σ r nb bs' := by
  obtain ⟨υ, L, vals, h0, h1⟩ := h
  exact ⟨υ, L, vals, hg.trans h0, h1⟩
end
/-- A value that means no more than another one. -/
def Wk (x y : PV) : Prop := y.one = true ∧ ∀ (c : Cx) (u : Value), RelV c x u → RelV c y u
section
variable {w0 : World} {foot omut : Nat → Prop} {σ : St} {tmps : Array Value} {c : Cx}
/-- A block's content told otherwise, in the same world. -/
theorem Gh.content {b : Ev.Id} {v : Nat} {x y : Cont} (hm : σ.m b = ⟨v, some x⟩) (h : ∀ (c : Cx) (foot : Nat → Prop), RelB c foot b x → RelB c foot b y) : Gh σ { σ with m := updm σ.m b ⟨v, some y⟩ } := by
  intro w0 foot omut tmps c R
  have hv := R.ver b
  rw [hm] at hv
  obtain ⟨d, h1, h2, h3, h4, h5, h6, h7⟩ := R.turn b v y c.w (c.at_ b) (c.sz b) (by rw [hv]; exact Nat.le_refl _) (fun _ => ⟨rfl, rfl⟩) rfl rfl rfl (Nat.le_refl _) (fun _ _ _ => rfl) (fun g cap hg => .inr ⟨x, cap, by rw [hm], hg⟩)
    (fun d h1 h2 h3 h4 h5 h6 => h d foot ((R.mem b x (by rw [hm])).le h6 (by rw [h5, hv]) (fun g cap hg => by rw [h1])))
  exact ⟨d, h1, h2, h6, h7⟩
/-- A block is given up. -/
theorem Gh.drop (b : Ev.Id) : Gh σ { σ with m := updm σ.m b ⟨(σ.m b).ver, none⟩ } := by
  intro w0 foot omut tmps c R
  obtain ⟨d, h1, h2, h3, h4⟩ := R.kill b (σ.m b).ver c.w (by rw [R.ver b]; exact Nat.le_refl _) rfl rfl rfl (Nat.le_refl _) (fun _ _ _ => rfl)
  exact ⟨d, h1, h2, h3, h4⟩
theorem set_get {α : Type} (l : List α) (i j : Nat) (x : α) : (l.set i x)[j]? = if i = j ∧ j < l.length then some x else l[j]? := by
  rw [List.getElem?_set]
  by_cases e : i = j
  · subst e
    by_cases h : i < l.length
    · simp [h]
    · simp [h]
  · simp [e]
/-- A cell told otherwise. -/
theorem RelB.cell {b : Ev.Id} {e sz : Nat} {rs : List (List PV)} {i j : Nat} {row : List PV} {x y : PV} (hrow : rs[i]? = some row) (hx : row[j]? = some x) (h1 : y.one = true) (hr : ∀ u, RelV c x u → RelV c y u) (h : RelB c foot b (.rows false e sz rs)) : RelB c foot b (.rows false e sz (rs.set i (row.set j y))) := by
  cases h with
  | none fl e sz hz h0 ha => simp at hrow
  | rows fl e sz rs g cap cur hz h0 ha ho hh hn hm hs hl h2 hr2 =>
    have hl0 := hl i row hrow
    have key : ∀ (i' : Nat) (row' : List PV), (rs.set i (row.set j y))[i']? = some row' → (rs[i']? = some row' ∧ i' ≠ i) ∨ (i' = i ∧ row' = row.set j y) := by
      intro i' row' h
      rw [set_get] at h
      split at h
      · rename_i hc; cases h; exact .inr ⟨hc.1.symm, rfl⟩
      · rename_i hc
        refine .inl ⟨h, fun e => hc ⟨e.symm, ?_⟩⟩
        exact (List.getElem?_eq_some_iff.1 h).1
    refine .rows false e sz _ g cap cur hz h0 ha ho hh (by rw [List.length_set]; exact hn) hm (by rw [List.length_set]; exact hs) (fun i' row' h => ?_) (fun i' row' j' z h hz => ?_) (fun i' row' j' z h hz => ?_)
    · rcases key i' row' h with ⟨h, _⟩ | ⟨rfl, rfl⟩
      · exact hl i' row' h
      · rw [List.length_set]; exact hl0
    · rcases key i' row' h with ⟨h, _⟩ | ⟨rfl, rfl⟩
      · exact h2 i' row' j' z h hz
      · rw [set_get] at hz
        split at hz
        · cases hz; exact ⟨h1, fun e => by cases e⟩
        · exact h2 i' row j' z hrow hz
    · rcases key i' row' h with ⟨h, _⟩ | ⟨rfl, rfl⟩
      · exact hr2 i' row' j' z h hz
      · rw [set_get] at hz
        split at hz
        · rename_i hc
          cases hz
          obtain ⟨rfl, _⟩ := hc
          obtain ⟨u, u1, u2⟩ := hr2 i' row j x hrow hx
          exact ⟨u, u1, hr u u2⟩
        · exact hr2 i' row j' z hrow hz
theorem Gh.cell {b : Ev.Id} {v : Nat} {e sz : Nat} {rs : List (List PV)} (hm : σ.m b = ⟨v, some (.rows false e sz rs)⟩) (i j : Nat) {row : List PV} {x y : PV} (hrow : rs[i]? = some row) (hx : row[j]? = some x) (hw : Wk x y) : Gh σ { σ with m := updm σ.m b ⟨v, some (.rows false e sz (rs.set i (row.set j y)))⟩ } :=
  Gh.content hm (fun c foot h => h.cell hrow hx hw.1 (hw.2 c))
/-- A nil row in a cell, as one of our own, with a new name. -/
theorem Gh.nilcell {b : Ev.Id} {v : Nat} {e sz : Nat} {rs : List (List PV)} (hm : σ.m b = ⟨v, some (.rows false e sz rs)⟩) (i j : Nat) {row : List PV} (hrow : rs[i]? = some row) (hx : row[j]? = some .nils) (b' : Ev.Id) (e' sz' : Nat) (h0 : 0 < sz') {v' : Nat} (hm' : σ.m b' = ⟨v', none⟩) (hne : b ≠ b') :
    Gh σ { σ with m := updm (updm σ.m b' ⟨v' + 1, some (.rows true e' sz' [])⟩) b ⟨v, some (.rows false e sz (rs.set i (row.set j (.own b' (v' + 1) 0))))⟩ } := by
  intro w0 foot omut tmps c R
  have hv0 := R.ver b'
  rw [hm'] at hv0
  have hv0 : c.ver b' = v' := hv0
  obtain ⟨d, h1, h2, h3, h4, h5, h6, h7⟩ := R.turn b' (v' + 1) (.rows true e' sz' []) c.w none sz' (by omega) (fun e => by omega) rfl rfl rfl (Nat.le_refl _) (fun _ _ _ => rfl) (by simp)
    (fun d h1 h2 h3 h4 h5 h6 => .none true e' sz' h4 h0 h3)
  have hmb : (updm σ.m b' ⟨v' + 1, some (.rows true e' sz' [])⟩) b = ⟨v, some (.rows false e sz rs)⟩ := by simp only [updm]; rw [if_neg hne, hm]
  have hv : d.ver b = v := by have := h7.ver b; simp only at this; rw [hmb] at this; exact this
  have hB : RelB d foot b (.rows false e sz rs) := h7.mem b _ (by simp only; rw [hmb])
  obtain ⟨d2, k1, k2, k3, k4, k5, k6, k7⟩ := h7.turn b v (.rows false e sz (rs.set i (row.set j (.own b' (v' + 1) 0)))) d.w (d.at_ b) (d.sz b) (by rw [hv]; exact Nat.le_refl _) (fun _ => ⟨rfl, rfl⟩) rfl rfl rfl (Nat.le_refl _) (fun _ _ _ => rfl) (fun g cap hg => .inr ⟨_, cap, by simp only; rw [hmb], hg⟩)
    (fun d2 k1 k2 k3 k4 k5 k6 => by
      have hver : d2.ver b' = v' + 1 ∨ v' + 1 < d2.ver b' := by have := k6.ver b'; omega
      refine (hB.le k6 (by rw [k5, hv]) (fun g cap hg => by rw [k1])).cell hrow hx rfl (fun u hu => ?_)
      cases hu
      refine .own _ _ _ _ rfl (by omega) (fun e => .inl ⟨?_, rfl, rfl⟩)
      rw [(k6.same b' (by omega)).1, h3])
  exact ⟨d2, k1.trans h1, k2.trans h2, h6.trans k6, k7⟩
end
/-- A nil row in a slot, as one of our own, with a new name. -/
theorem Gh.nilslot {σ : St} (i : Nat) (hx : σ.t i = .nils) (b' : Ev.Id) (e' sz' : Nat) (h0 : 0 < sz') {v' : Nat} (hm' : σ.m b' = ⟨v', none⟩) :
    Gh σ ⟨upd σ.t i (.own b' (v' + 1) 0), updm σ.m b' ⟨v' + 1, some (.rows true e' sz' [])⟩⟩ := by
  intro w0 foot omut tmps c R
  have hv0 := R.ver b'
  rw [hm'] at hv0
  have hv0 : c.ver b' = v' := hv0
  obtain ⟨d, h1, h2, h3, h4, h5, h6, h7⟩ := R.turn b' (v' + 1) (.rows true e' sz' []) c.w none sz' (by omega) (fun e => by omega) rfl rfl rfl (Nat.le_refl _) (fun _ _ _ => rfl) (by simp)
    (fun d h1 h2 h3 h4 h5 h6 => .none true e' sz' h4 h0 h3)
  refine ⟨d, h1, h2, h6, ⟨fun j => ?_, h7.ver, h7.mem, h7.mt, h7.inj, h7.om, h7.fr, h7.bs, h7.fb, h7.bw⟩⟩
  show RelV d (upd σ.t i _ j) _
  unfold upd
  by_cases e : j = i
  · subst e
    rw [if_pos rfl]
    have hr := h7.tm j
    simp only at hr
    rw [hx] at hr
    generalize tmps.getD j undef = u at hr
    cases hr
    exact .own _ _ _ _ rfl (by omega) (fun _ => .inl ⟨h3, rfl, rfl⟩)
  · rw [if_neg e]; exact h7.tm j
/-- A contract of the kit's whose value means the same in each world, as one of ours. -/
theorem den_of_rel {P : Program} [Tbl P] {f : Nat} {args : List PV} {r : PV}
    (hc : ∀ (c : Cx) (us : List Value), (∀ w' : World, (∀ k, k < c.w.heap.size → w'.heap[k]? = c.w.heap[k]?) → Tbl.T P w') → args.length = us.length → (∀ (i : Nat) (x : PV) (u : Value), args[i]? = some x → us[i]? = some u → RelV c x u) → Calls P f us.toArray c.w fun e w' => ∃ v, e = .returned v ∧ (∀ d : Cx, RelV d r v) ∧ Below c.w.heap.size c.w w') : Den P f args [] r [] [] := by
  intro us foot omut c hT hbase hlen hargs R
  refine Calls.mono (hc c us (fun w' h => hT w' (fun k hk _ => h k hk)) hlen hargs) ?_
  rintro e w' ⟨v, rfl, hr, hB⟩
  let d : Cx := { c with w := w', ver := fun b => match b with | .loc _ _ => 1 | .ext _ => 0 }
  have hv0 : ∀ b, c.ver b = 0 := fun b => by rw [R.ver b]; cases b <;> rfl
  have hle : c.le d := ⟨rfl, hB.size, fun k hk hm => ⟨hm, hB.block k hk⟩, fun b => by rw [hv0]; exact Nat.zero_le _, fun _ _ => ⟨rfl, rfl⟩⟩
  have hno : ∀ (b : Id) (x : Cont), ((stM (m1 [] [])).m b).live = some x → False := by
    intro b x h
    cases b with
    | ext k => simp [stM, m1] at h
    | loc j k => cases k <;> simp [stM, m1] at h
  have hno0 : ∀ (b : Id) (x : Cont), ((stM (m0 [])).m b).live = some x → False := by
    intro b x h
    cases b with
    | ext k => simp [stM, m0] at h
    | loc j k => simp [stM, m0] at h
  refine ⟨v, d, rfl, rfl, rfl, hle, hr d, ?_⟩
  refine ⟨fun i => .dead _, fun b => ?_, fun b x h => (hno b x h).elim, fun k => ⟨fun hk => ?_, fun hk => ?_⟩, fun b b' x x' g cap cap' h => (hno b x h).elim, R.om, ?_, ?_, R.fb, R.bw⟩
  · cases b with
    | ext k => rfl
    | loc j k => cases k <;> rfl
  · rcases (R.mt k).1 hk with h | ⟨b, x, cap, h, _⟩
    · exact .inl h
    · exact (hno0 b x h).elim
  · rcases hk with h | ⟨b, x, cap, h, _⟩
    · exact (R.mt k).2 (.inl h)
    · exact (hno b x h).elim
  · exact ⟨hB.os, hB.tape, hB.output, hB.size, fun k hk _ => hB.block k (Nat.lt_of_lt_of_le hk R.bs)⟩
  · exact Nat.le_trans R.bs hB.size
end Go.Proofs.Ev
namespace Go.Proofs.Ev
open Go Go.RowKit
set_option linter.unusedVariables false
set_option linter.unusedSimpArgs false
section
variable {P : Program} [Tbl P] {σ : St}
/-- The end of a function that gives up both blocks that it was handed. -/
theorem FD2N {ts : List ResultVar} {vals : List PV} {r : PV} {v0 v1 : Nat} {y0 y1 : Option Cont}
    (hm0 : σ.m (.ext 0) = ⟨v0, y0⟩ := by (simp (disch := omega) only [Nat.add_zero, ↓reduceIte, ↓nxt, ↓wantS.eq_def, ↓opF, ↓St.ev.eq_def, ↓app_t, ↓app_m0, ↓app_m1, ↓app_m2, go_sem, *, reduceIte, ite_true, ite_false, Nat.reduceEqDiff, Nat.reduceAdd, Nat.reduceSub, Nat.reduceMul, Nat.reduceLT, Nat.reduceLeDiff, Nat.reduceBEq, Int.reduceToNat, Int.reduceLT, Int.reduceLE, Int.reduceAdd, Int.reduceSub, Int.reduceNeg, Int.reduceBEq, Int.reduceEq, reduceCtorEq, ge_iff_le, gt_iff_lt]; first | done | exact rfl | fail))
    (hm1 : σ.m (.ext 1) = ⟨v1, y1⟩ := by (simp (disch := omega) only [Nat.add_zero, ↓reduceIte, ↓nxt, ↓wantS.eq_def, ↓opF, ↓St.ev.eq_def, ↓app_t, ↓app_m0, ↓app_m1, ↓app_m2, go_sem, *, reduceIte, ite_true, ite_false, Nat.reduceEqDiff, Nat.reduceAdd, Nat.reduceSub, Nat.reduceMul, Nat.reduceLT, Nat.reduceLeDiff, Nat.reduceBEq, Int.reduceToNat, Int.reduceLT, Int.reduceLE, Int.reduceAdd, Int.reduceSub, Int.reduceNeg, Int.reduceBEq, Int.reduceEq, reduceCtorEq, ge_iff_le, gt_iff_lt]; first | done | exact rfl | fail))
    (hv : resL P σ ts = some vals := by (simp (disch := omega) only [↓reduceIte, ↓nxt, ↓wantS.eq_def, ↓opF, ↓St.ev.eq_def, ↓app_t, ↓app_m0, ↓app_m1, ↓app_m2, go_sem, *, resL.eq_def, cellV, reduceIte, ite_true, ite_false, Nat.reduceEqDiff, Nat.reduceAdd, Nat.reduceSub, Nat.reduceMul, Nat.reduceLT, Nat.reduceLeDiff, Nat.reduceBEq, Int.reduceToNat, Int.reduceLT, Int.reduceLE, Int.reduceAdd, Int.reduceSub, Int.reduceNeg, Int.reduceBEq, Int.reduceEq, reduceCtorEq, ge_iff_le, gt_iff_lt]; first | done | exact rfl))
    (h : liftR (exp2 [] [(v0, 1), (v1, 1)]) (nz (resV vals)) = some r := by (simp (disch := omega) only [liftL, liftF.eq_def, liftA.eq_def, liftR.eq_def, liftLL, liftC.eq_def, liftCs, liftOs, in1.eq_def, out1.eq_def, exp2.eq_def, posOf.eq_def, Nat.add_zero, Nat.zero_add, resV.eq_def, nz.eq_def, nzA.eq_def, nz1.eq_def, ↓reduceIte, ↓nxt, ↓wantS.eq_def, ↓opF, ↓St.ev.eq_def, ↓app_t, ↓app_m0, ↓app_m1, ↓app_m2, go_sem, *, reduceIte, ite_true, ite_false, Nat.reduceEqDiff, Nat.reduceAdd, Nat.reduceSub, Nat.reduceMul, Nat.reduceLT, Nat.reduceLeDiff, Nat.reduceBEq, Int.reduceToNat, Int.reduceLT, Int.reduceLE, Int.reduceAdd, Int.reduceSub, Int.reduceNeg, Int.reduceBEq, Int.reduceEq, reduceCtorEq, ge_iff_le, gt_iff_lt]; first | done | exact rfl | fail)) : FinD P ts 2 σ r [] [(1, none), (1, none)] :=
  ⟨σ, [], [(v0, 1), (v1, 1)], vals, Gh.refl σ, hv, h, rfl, rfl, rfl, List.nodup_nil, by simp, fun k q hq => by
    match k, hq with
    | 0, hq => cases hq; exact ⟨y0, none, hm0, rfl, (fun z' e => by cases e), (fun e => by cases e)⟩
    | 1, hq => cases hq; exact ⟨y1, none, hm1, rfl, (fun z' e => by cases e), (fun e => by cases e)⟩⟩
end
end Go.Proofs.Ev
