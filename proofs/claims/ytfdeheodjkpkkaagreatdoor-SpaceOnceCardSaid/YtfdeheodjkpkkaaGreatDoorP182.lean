/- What the laws lean on, part 2: texts of this claim, merged and cut to what is used. -/
import Derived.Attr
import Derived.Below
import Derived.Calls
import Derived.ChangeArms
import Derived.ChangeAt
import Derived.ChangeFn
import Derived.DataElems
import Derived.DataReads
import Derived.Deep.LoopGhost
import Derived.IntWalk
import Derived.Laws.Cells
import Derived.Laws.MakeOwn
import Derived.Laws.OwnMore
import Derived.Laws.Slices
import Derived.Laws.StructEq
import Derived.Orders
import Derived.Scope
import Derived.SizedLaws
import Derived.WideShapes
import GoSem.Core.Utf8
import Derived.Test.YtfdeheodjkpkkaaGreatDoorP181
set_option linter.unusedVariables false
set_option linter.unusedSimpArgs false
set_option linter.unusedSectionVars false
namespace Go.Proofs.Ev
open Go Go.RowKit Go.WideShapes
set_option linter.unusedVariables false
set_option linter.unusedSimpArgs false
/-- Whatever is read of type t is a value of ours, laid as e says, and Q holds of it. -/
structure Opv (P : Program) {α : Type} (e : α → List PV) (t : TypeId) (Q : α → Prop) : Prop where
  len : ∀ y, (e y).length = P.cellsOf t
  sf : ∀ y, ∀ p ∈ e y, p.sf = true
  op : ∀ {H : Type} {enc : TypeId × Value → H} {w : World} {base : Nat} {spare : Nat → Bool} {held : Bool} {fuel : Nat} {cs : List Value} {x : DataW H × List MemPlace}, DataW.trod enc P w base spare held fuel t cs = some x → (x.1.weights P t).all (· ≤ reachBytes) = true →
    ∃ y, cs.length = P.cellsOf t ∧ (∀ (j : Nat) (p : PV) (u : Value), (e y)[j]? = some p → cs[j]? = some u → RelV (cxW w) p u) ∧ Q y
theorem Opv.mono {P : Program} {α : Type} {e : α → List PV} {t : TypeId} {Q R : α → Prop} (h : Opv P e t Q) (hR : ∀ y, Q y → R y) : Opv P e t R :=
  ⟨h.len, h.sf, fun a b => by obtain ⟨y, h1, h2, h3⟩ := h.op a b; exact ⟨y, h1, h2, hR y h3⟩⟩
theorem at0 {p q : PV} {j : Nat} (h : [p][j]? = some q) : j = 0 ∧ q = p := by
  cases j with
  | zero => simpa using h.symm
  | succ j => simp at h
theorem at0v {p q : Value} {j : Nat} (h : [p][j]? = some q) : j = 0 ∧ q = p := by
  cases j with
  | zero => simpa using h.symm
  | succ j => simp at h
theorem Opv.int {P : Program} {t : TypeId} {k : IntKind} (ht : P.underlying t = some (.int k)) (hc : P.cellsOf t = 1) : Opv P (fun n => [.int k n]) t (fun n => (Lit.int k n).wf = true) := by
  refine ⟨fun _ => hc.symm, fun y p h => by simp at h; subst h; rfl, fun h _ => ?_⟩
  obtain ⟨n, rfl, _, hw⟩ := DataW.trod_int ht h
  refine ⟨n, hc.symm, fun j p u h1 h2 => ?_, hw⟩
  rw [(at0 h1).2, (at0v h2).2]
  exact .int k n
theorem Opv.bool {P : Program} {t : TypeId} (ht : P.underlying t = some .bool) (hc : P.cellsOf t = 1) : Opv P (fun b => [.bool b]) t (fun _ => True) := by
  refine ⟨fun _ => hc.symm, fun y p h => by simp at h; subst h; rfl, fun h _ => ?_⟩
  obtain ⟨b, rfl, _⟩ := DataW.trod_bool ht h
  refine ⟨b, hc.symm, fun j p u h1 h2 => ?_, trivial⟩
  rw [(at0 h1).2, (at0v h2).2]
  exact .bool b
theorem Opv.str {P : Program} {t : TypeId} (ht : P.underlying t = some .string) (hc : P.cellsOf t = 1) : Opv P (fun s => [.str s]) t (fun s => s.size ≤ 140737488351232) := by
  refine ⟨fun _ => hc.symm, fun y p h => by simp at h; subst h; rfl, fun h hz => ?_⟩
  obtain ⟨s, rfl, rfl, hw⟩ := DataW.trod_string ht h
  refine ⟨s, hc.symm, fun j p u h1 h2 => ?_, ?_⟩
  · rw [(at0 h1).2, (at0v h2).2]
    exact .str s
  · have hr : reachBytes = 140737488351232 := rfl
    simp [DataW.weights] at hz
    rw [← hr]
    exact hz
theorem pick_list {α : Type} (R : Nat → α → Prop) : ∀ (n : Nat), (∀ i, i < n → ∃ y, R i y) → ∃ xs : List α, xs.length = n ∧ ∀ j p, xs[j]? = some p → R j p
  | 0, _ => ⟨[], rfl, fun j p h => by simp at h⟩
  | n + 1, h => by
    obtain ⟨xs, hl, hx⟩ := pick_list R n (fun i hi => h i (by omega))
    obtain ⟨y, hy⟩ := h n (by omega)
    refine ⟨xs ++ [y], by simp [hl], fun j p hj => ?_⟩
    by_cases k : j < n
    · rw [List.getElem?_append_left (by omega)] at hj
      exact hx j p hj
    · rw [List.getElem?_append_right (by omega), hl] at hj
      have hjn : j - n = 0 := by
        have := (List.getElem?_eq_some_iff.1 hj).1
        simp at this
        omega
      rw [hjn] at hj
      obtain rfl : y = p := by simpa using hj
      obtain rfl : j = n := by omega
      exact hy
theorem weights_all {H : Type} {P : Program} {e : TypeId} : ∀ {l : List (DataW H)} {d : DataW H}, d ∈ l → ∀ n ∈ d.weights P e, n ∈ DataW.weightsAll P e l
  | x :: l, d, hd, n, hn => by
    simp only [DataW.weightsAll, List.mem_append]
    rcases List.mem_cons.1 hd with rfl | hd
    · exact .inl hn
    · exact .inr (weights_all hd n hn)
theorem Opv.rows {P : Program} {α : Type} {e : α → List PV} {t te : TypeId} {Q : α → Prop} (ht : P.underlying t = some (.slice te)) (he : Opv P e te Q) (hce : 0 < P.cellsOf te) {B : Nat} (hB : 0 < B) (hb : B ≤ P.bytesOf te) {H : Type} {enc : TypeId × Value → H} {w : World} {base : Nat} {spare : Nat → Bool} {held : Bool} {fuel : Nat} {cs : List Value} {x : DataW H × List MemPlace}
    (h : DataW.trod enc P w base spare held fuel t cs = some x) (hz : (x.1.weights P t).all (· ≤ reachBytes) = true) : ∃ A c, ∃ xs : List α, cs = [.slice A xs.length c] ∧ RelV (cxW w) (.ro (xs.map e)) (.slice A xs.length c) ∧ (∀ y ∈ xs, Q y) ∧ xs.length ≤ 140737488351232 / B := by
  rcases DataW.trod_slice ht h with ⟨rfl, rfl⟩ | ⟨a, len, cap, elems, rest, n, _, rfl, rfl, hbb, hl, hm, hlen, hel, _, _⟩
  · exact ⟨none, 0, [], rfl, .ro [] none 0 1 (fun _ _ => .bool false) (Nat.le_refl _) (fun _ => ⟨rfl, rfl⟩) (by simp) (by simp) (by simp) (by simp) (by simp), by simp, Nat.zero_le _⟩
  · have hr : reachBytes = 140737488351232 := rfl
    have hzz : (elems.length + rest.length) * P.bytesOf te ≤ 140737488351232 ∧ ∀ (i : Nat) (d : DataW H × List MemPlace), elems[i]? = some d → (d.1.weights P te).all (· ≤ reachBytes) = true := by
      rw [List.all_eq_true] at hz
      have hw : (DataW.slice (elems.map (·.1)) (rest.map (·.1))).weights P t = ((elems.map (·.1)).length + (rest.map (·.1)).length) * P.bytesOf te :: (DataW.weightsAll P te (elems.map (·.1)) ++ DataW.weightsAll P te (rest.map (·.1))) := by
        simp only [DataW.weights, ht]
      simp only [hw] at hz
      refine ⟨?_, fun i d hd => ?_⟩
      · have := hz _ (List.mem_cons_self ..)
        rw [hr] at this
        simpa using this
      · rw [List.all_eq_true]
        intro v hv
        refine hz v (List.mem_cons_of_mem _ (List.mem_append_left _ (weights_all (d := d.1) ?_ v hv)))
        exact List.mem_map_of_mem (List.mem_of_getElem? hd)
    obtain ⟨hz1, hz2⟩ := hzz
    have each : ∀ i, i < len → ∃ y, (∃ c : List Value, c.length = P.cellsOf te ∧ (∀ (j : Nat) (p : PV) (u : Value), (e y)[j]? = some p → c[j]? = some u → RelV (cxW w) p u) ∧ ∀ (j : Nat) (u : Value), c[j]? = some u → w.cell? (a.add (i * P.cellsOf te + j)) = some u) ∧ Q y := by
      intro i hi
      have h1 := hel i hi
      obtain ⟨z, hzi⟩ : ∃ z, elems[i]? = some z := ⟨_, List.getElem?_eq_getElem (by omega)⟩
      rw [hzi, Option.bind_eq_some_iff] at h1
      obtain ⟨c, hc, hd⟩ := h1
      obtain ⟨_, hcl, hcell⟩ := World.cells?_some hc
      obtain ⟨y, hy, hyr, hq⟩ := he.op hd (hz2 i z hzi)
      refine ⟨y, ⟨c, hy, hyr, fun j u hu => ?_⟩, hq⟩
      have hj : j < P.cellsOf te := by rw [← hcl]; exact (List.getElem?_eq_some_iff.1 hu).1
      have h3 := hcell j hj
      rw [Addr.add_add] at h3
      rw [h3, hu]
    obtain ⟨xs, hxl, hx⟩ := pick_list _ len each
    have hxB : xs.length ≤ 140737488351232 / B := by
      rw [hxl, Nat.le_div_iff_mul_le hB]
      have h1 : len ≤ elems.length + rest.length := by omega
      exact Nat.le_trans (Nat.mul_le_mul h1 hb) hz1
    refine ⟨some a, cap, xs, by rw [hxl], ?_, fun y hy => ?_, hxB⟩
    · have hlm : xs.length = (xs.map e).length := by simp
      rw [hlm]
      have hcell : ∀ (i : Nat) (row : List PV) (j : Nat) (p : PV), (xs.map e)[i]? = some row → row[j]? = some p → ∃ u, w.cell? (a.add (i * P.cellsOf te + j)) = some u ∧ RelV (cxW w) p u := by
        intro i row j p h1 h2
        rw [List.getElem?_map] at h1
        cases hxi : xs[i]? with
        | none => rw [hxi] at h1; cases h1
        | some y =>
          rw [hxi] at h1
          obtain rfl := Option.some.inj h1
          obtain ⟨⟨c, c1, c2, c3⟩, _⟩ := hx i y hxi
          have hj : j < c.length := by rw [c1, ← he.len y]; exact (List.getElem?_eq_some_iff.1 h2).1
          exact ⟨c[j], c3 j _ (List.getElem?_eq_getElem hj), c2 j p _ h2 (List.getElem?_eq_getElem hj)⟩
      have hsp : xs.map e ≠ [] → a.spot = none ∧ a.block < w.heap.size := by
        intro hne
        obtain ⟨row, hrow⟩ : ∃ row, (xs.map e)[0]? = some row := by
          cases hm : xs.map e with
          | nil => exact absurd hm hne
          | cons r _ => exact ⟨r, rfl⟩
        have hrl : row.length = P.cellsOf te := by
          obtain ⟨y, _, rfl⟩ := List.mem_map.1 (List.mem_of_getElem? hrow)
          exact he.len y
        obtain ⟨p, hp⟩ : ∃ p, row[0]? = some p := ⟨_, List.getElem?_eq_getElem (by omega)⟩
        obtain ⟨u, hu, _⟩ := hcell 0 row 0 p hrow hp
        rw [Nat.zero_mul] at hu
        have h0 : a.add (0 + 0) = a := by simp [Addr.add]
        rw [h0] at hu
        refine ⟨World.cell?_spot hu, ?_⟩
        unfold World.cell? at hu
        cases hg : w.heap[a.block]? with
        | none => rw [hg] at hu; cases hu
        | some _ => exact (Array.getElem?_eq_some_iff.1 hg).1
      have hadd : xs.map e ≠ [] → ∀ k, a.add k = ⟨a.block, a.off + k, none⟩ := by
        intro hne k
        obtain ⟨s1, _⟩ := hsp hne
        unfold Addr.add
        split
        · rename_i q; rw [q]; cases a; simp only at s1; subst s1; rfl
        · rfl
      refine .ro (xs.map e) (some a) cap (P.cellsOf te) (fun i j => (w.cell? (a.add (i * P.cellsOf te + j))).getD undef) (by simp; omega) (fun q => by cases q) (fun i row hi => ?_) (fun ad q hne => ?_) (fun i row j p h1 h2 => ?_) (fun ad i row j p q h1 h2 => ?_) (fun i row j p h1 h2 => ?_)
      · obtain ⟨y, _, rfl⟩ := List.mem_map.1 (List.mem_of_getElem? hi)
        exact he.len y
      · cases q
        exact ⟨(hsp hne).1, fun h => h, (hsp hne).2⟩
      · obtain ⟨y, _, rfl⟩ := List.mem_map.1 (List.mem_of_getElem? h1)
        exact he.sf y p (List.mem_of_getElem? h2)
      · cases q
        have hne : xs.map e ≠ [] := by intro h; rw [h] at h1; simp at h1
        obtain ⟨u, hu, _⟩ := hcell i row j p h1 h2
        show w.cell? _ = _
        rw [hu, ← hadd hne, hu]
        rfl
      · obtain ⟨u, hu, hv⟩ := hcell i row j p h1 h2
        simp only [hu, Option.getD_some]
        exact hv
    · obtain ⟨i, hi⟩ := List.getElem?_of_mem hy
      exact (hx i y hi).2
theorem Opv.slice {P : Program} {α : Type} {e : α → List PV} {t te : TypeId} {Q : α → Prop} (ht : P.underlying t = some (.slice te)) (he : Opv P e te Q) (hce : 0 < P.cellsOf te) (hc : P.cellsOf t = 1) {B : Nat} (hB : 0 < B) (hb : B ≤ P.bytesOf te) : Opv P (fun xs : List α => [.ro (xs.map e)]) t (fun xs => (∀ y ∈ xs, Q y) ∧ xs.length ≤ 140737488351232 / B) := by
  refine ⟨fun _ => hc.symm, fun y p h => by simp at h; subst h; rfl, fun h hz => ?_⟩
  obtain ⟨A, c, xs, rfl, h2, h3, h4⟩ := Opv.rows ht he hce hB hb h hz
  refine ⟨xs, hc.symm, fun j p u k1 k2 => ?_, h3, h4⟩
  rw [(at0 k1).2, (at0v k2).2]
  exact h2
/-- The fields fs, from the cell off on, are laid as e says. -/
def OpvF (P : Program) {α : Type} (e : α → List PV) (n : Nat) (fs : List Field) (off : Nat) (Q : α → Prop) : Prop :=
  (∀ y, (e y).length = n) ∧ (∀ y, ∀ p ∈ e y, p.sf = true) ∧
  ∀ {H : Type} {enc : TypeId × Value → H} {w : World} {base : Nat} {spare : Nat → Bool} {held : Bool} {fuel : Nat} {cs : List Value},
    (∀ (i : Nat) (f : Field), fs[i]? = some f → ∃ x, DataW.trod enc P w base spare held fuel f.type ((cs.drop f.offset).take (P.cellsOf f.type)) = some x ∧ (x.1.weights P f.type).all (· ≤ reachBytes) = true) → ∃ y, ((cs.drop off).take n).length = n ∧ (∀ (j : Nat) (p : PV) (u : Value), (e y)[j]? = some p → ((cs.drop off).take n)[j]? = some u → RelV (cxW w) p u) ∧ Q y
theorem OpvF.one {P : Program} {α : Type} {e : α → List PV} {f : Field} {off : Nat} {Q : α → Prop} (hf : f.offset = off) (h : Opv P e f.type Q) : OpvF P e (P.cellsOf f.type) [f] off Q := by
  refine ⟨h.len, h.sf, ?_⟩
  intro H enc w base spare held fuel cs hx
  obtain ⟨x, hx, hz⟩ := hx 0 f rfl
  rw [hf] at hx
  exact h.op hx hz
theorem OpvF.pair {P : Program} {α β : Type} {e : α → List PV} {g : β → List PV} {f : Field} {fs : List Field} {off n m : Nat} {Q : α → Prop} {R : β → Prop} (hm : P.cellsOf f.type = m) (hf : f.offset = off) (h : Opv P e f.type Q) (hr : OpvF P g n fs (off + m) R) : OpvF P (fun p : α × β => e p.1 ++ g p.2) (m + n) (f :: fs) off (fun p => Q p.1 ∧ R p.2) := by
  subst hm
  obtain ⟨r1, r2, r3⟩ := hr
  refine ⟨fun y => by rw [List.length_append, h.len, r1], fun y p hp => ?_, ?_⟩
  · rcases List.mem_append.1 hp with hp | hp
    · exact h.sf _ p hp
    · exact r2 _ p hp
  intro H enc w base spare held fuel cs hx
  obtain ⟨x, hx0, hz⟩ := hx 0 f rfl
  rw [hf] at hx0
  obtain ⟨y, hy1, hy2, hq⟩ := h.op hx0 hz
  obtain ⟨z, hz1, hz2, hrr⟩ := r3 (cs := cs) (fun i f hi => hx (i + 1) f (by simpa using hi))
  have hsp : (cs.drop off).take (P.cellsOf f.type + n) = (cs.drop off).take (P.cellsOf f.type) ++ (cs.drop (off + P.cellsOf f.type)).take n := by
    rw [List.take_add, List.drop_drop]
  refine ⟨(y, z), ?_, fun j p u h1 h2 => ?_, hq, hrr⟩
  · rw [hsp, List.length_append, hy1, hz1]
  · rw [hsp] at h2
    by_cases hj : j < P.cellsOf f.type
    · rw [List.getElem?_append_left (by rw [h.len]; exact hj)] at h1
      rw [List.getElem?_append_left (by rw [hy1]; exact hj)] at h2
      exact hy2 j p u h1 h2
    · rw [List.getElem?_append_right (by rw [h.len]; omega), h.len] at h1
      rw [List.getElem?_append_right (by rw [hy1]; omega), hy1] at h2
      exact hz2 _ p u h1 h2
theorem weights_fields {H : Type} {P : Program} {t : TypeId} {fs : Array Field} {xs : List (DataW H × List MemPlace)} (ht : P.underlying t = some (.struct fs)) (hz : ((DataW.agg (xs.map (·.1)) : DataW H).weights P t).all (· ≤ reachBytes) = true) (i : Nat) (f : Field) (x : DataW H × List MemPlace) (hf : fs[i]? = some f) (hx : xs[i]? = some x) : (x.1.weights P f.type).all (· ≤ reachBytes) = true := by
  rw [List.all_eq_true] at hz ⊢
  intro v hv
  refine hz v ?_
  have : (DataW.agg (xs.map (·.1)) : DataW H).weights P t = DataW.weightsEach P (fs.toList.map (·.type)) (xs.map (·.1)) := by simp only [DataW.weights, ht]
  rw [this]
  exact DataW.weights_mem_each (j := i) (t := f.type) (d := x.1) (by rw [List.getElem?_map, Array.getElem?_toList, hf]; rfl) (by rw [List.getElem?_map, hx]; rfl) v hv
theorem Opv.struct {P : Program} {α β : Type} {e : α → List PV} {e' : β → List PV} {t : TypeId} {fs : Array Field} {Q : α → Prop} {n : Nat} (ht : P.underlying t = some (.struct fs)) (f : β → α) (g : α → β) (hg : ∀ a, f (g a) = a) (he : ∀ b, e' b = e (f b)) (hf : OpvF P e n fs.toList 0 Q) (hc : P.cellsOf t = n) : Opv P e' t (fun x => Q (f x)) := by
  obtain ⟨r1, r2, r3⟩ := hf
  refine ⟨fun y => by rw [he, r1, hc], fun y p hp => r2 _ p (by rw [← he]; exact hp), fun h hz => ?_⟩
  obtain ⟨xs, m, rfl, hx0, hl, hn, hx⟩ := DataW.trod_struct ht h
  subst hx0
  obtain ⟨y, hy1, hy2, hq⟩ := r3 (fun i f hi => by
    have hi' : fs[i]? = some f := by simpa using hi
    have hlt : i < fs.size := (Array.getElem?_eq_some_iff.1 hi').1
    exact ⟨xs[i]'(by omega), by rw [hx i f hi', List.getElem?_eq_getElem (by omega)], weights_fields ht hz i f _ hi' (List.getElem?_eq_getElem (by omega))⟩)
  rw [List.drop_zero, List.take_of_length_le (by rw [hl, hc]; exact Nat.le_refl _)] at hy1 hy2
  exact ⟨g y, hl, fun j p u h1 h2 => hy2 j p u (by rw [he, hg] at h1; exact h1) h2, by rw [hg]; exact hq⟩
theorem rel_nil {c : Cx} : ([] : List PV).length = ([] : List Value).length ∧ ∀ (i : Nat) (x : PV) (u : Value), ([] : List PV)[i]? = some x → ([] : List Value)[i]? = some u → RelV c x u := ⟨rfl, fun i x u h => by simp at h⟩
theorem rel_cons {c : Cx} {x : PV} {u : Value} {l : List PV} {us : List Value} (h : RelV c x u) (hl : l.length = us.length ∧ ∀ (i : Nat) (x : PV) (u : Value), l[i]? = some x → us[i]? = some u → RelV c x u) :
    (x :: l).length = (u :: us).length ∧ ∀ (i : Nat) (y : PV) (v : Value), (x :: l)[i]? = some y → (u :: us)[i]? = some v → RelV c y v := by
  refine ⟨by simp [hl.1], fun i y v h1 h2 => ?_⟩
  cases i with
  | zero =>
    rw [List.getElem?_cons_zero] at h1 h2
    rw [← Option.some.inj h1, ← Option.some.inj h2]
    exact h
  | succ i =>
    rw [List.getElem?_cons_succ] at h1 h2
    exact hl.2 i y v h1 h2
section
variable {H : Type} {enc : TypeId × Value → H} {P : Program} {w : World} {base : Nat} {spare : Nat → Bool} {held : Bool} {r : Reach} {b0 : Nat} {v : Value} {d : DataW H} {p : List MemPlace}
theorem size_at {ts : List TypeId} {ds : List (DataW H)} (h : (DataW.weightsEach P ts ds).all (· ≤ reachBytes) = true) {j : Nat} {t : TypeId} (ht : ts[j]? = some t) (hd : ds[j]? = some d) : (d.weights P t).all (· ≤ reachBytes) = true := by
  rw [List.all_eq_true] at h ⊢
  exact fun n hn => h n (DataW.weights_mem_each ht hd n hn)
/-- An argument that is a slice. -/
theorem open_ro {α : Type} {e : α → List PV} {t te : TypeId} {Q : α → Prop} (ht : P.underlying t = some (.slice te)) (he : Opv P e te Q) (hce : 0 < P.cellsOf te) {B : Nat} (hB : 0 < B) (hb : B ≤ P.bytesOf te)
    (hval : Value.okWide P w r b0 t v) (hd : DataW.Trod enc P w base spare held t v d p) (hz : (d.weights P t).all (· ≤ reachBytes) = true) : ∃ xs : List α, RelV (cxW w) (.ro (xs.map e)) v ∧ (∀ y ∈ xs, Q y) ∧ xs.length ≤ 140737488351232 / B := by
  obtain ⟨a, n, c, rfl⟩ := okWide_slice ht hval
  obtain ⟨fuel, hf⟩ := hd
  obtain ⟨A, c', xs, h1, h2, h3, h4⟩ := Opv.rows ht he hce hB hb hf hz
  have hcs : (Value.slice a n c).cells.toList = [.slice a n c] := by simp [Value.cells]
  rw [hcs] at h1
  simp only [List.cons.injEq, and_true] at h1
  rw [h1]
  exact ⟨xs, h2, h3, h4⟩
theorem open_int {t : TypeId} {k : IntKind} (ht : P.underlying t = some (.int k)) (hval : Value.okWide P w r b0 t v) (hd : DataW.Trod enc P w base spare held t v d p) : ∃ n, RelV (cxW w) (.int k n) v ∧ (Lit.int k n).wf = true := by
  obtain ⟨n, rfl⟩ := okWide_int ht hval
  obtain ⟨fuel, hf⟩ := hd
  obtain ⟨m, h1, _, hw⟩ := DataW.trod_int ht hf
  simp [Value.cells] at h1
  subst h1
  exact ⟨n, .int k n, hw⟩
end
/-- A contract of ours, as a call from outside, the arguments in one. -/
theorem calls_of {P : Program} [Tbl P] {f : Nat} {args : List PV} {us : List Value} {r : PV} {v : Value} {w : World} (hD : Den P f args [] r [] []) (hr : valR r = some v) (ha : args.length = us.length ∧ ∀ (i : Nat) (x : PV) (u : Value), args[i]? = some x → us[i]? = some u → RelV (cxW w) x u)
    (hT : ∀ w' : World, (∀ k, k < w.heap.size → w'.heap[k]? = w.heap[k]?) → Tbl.T P w') : Calls P f us.toArray w fun e w' => e = .returned v ∧ Below w.heap.size w w' := calls_of_den hD hr ha.1 ha.2 hT
end Go.Proofs.Ev
namespace Go.Proofs.Ev
open Go Go.RowKit
set_option linter.unusedVariables false
set_option linter.unusedSimpArgs false
set_option linter.unusedSectionVars false
section
variable {P : Program} [Tbl P] {Q : St → Prop} {k : List It} {σ : St}
theorem Run_drcall {ops os : List Oper} {o : Oper} {log : List (List Id × List Id)} {f : Operand} {args : Array Operand} {ts : Array Nat} {g : Nat} {caps as : List PV} {r : PV} {rf : List Id} (hop : o.op = .call { callee := .value f, args := args, argTypes := ts }) (hg : wantS ops σ o = some true) (hf : σ.ev f = .fn g caps)
    (has : (args.toList.map σ.ev ++ caps).map (rdV σ.m) = as) (hD : Den P g as [] r [] []) (hok : okF P g = true) (ha : (as.all plainG) = true) (hpr : noMem r = true) (hrf : refsOf σ o = rf) (hr : Run P Q (.drw ops os (log ++ [(rf, [])]) :: k) (σ.app o.dst ⟨r, [], []⟩)) : Run P Q (.drw ops (o :: os) log :: k) σ := by
  subst has
  subst hrf
  simp only [Run, wpD] at hr ⊢
  refine ⟨⟨r, [], []⟩, .inl ⟨hg, ?_⟩, hr⟩
  show StepE P σ o _
  unfold StepE
  rw [hop]
  simp only
  rw [hf]
  exact .inr (.inr ⟨r, hok, ha, hpr, hD, rfl⟩)
theorem DR {g : Nat} {as : List PV} {r : PV} (hD : Den P g as [] r [] []) {ops os : List Oper} {o : Oper} {log : List (List Id × List Id)} {rf : List Id} {xs : List Operand} {f : Operand} {args : Array Operand} {ts : Array Nat} {caps : List PV} {d : Option Nat} (hr : Run P Q (.drw ops os (log ++ [(rf, [])]) :: k) (σ.app d ⟨r, [], []⟩))
    (hdst : o.dst = d := by first | exact (rfl : some _ = some _) | exact (rfl : none = none))
    (hop : o.op = .call { callee := .value f, args := args, argTypes := ts } := by exact rfl)
    (hg : wantS ops σ o = some true := by (simp (disch := omega) only [↓reduceIte, ↓nxt, ↓wantS.eq_def, ↓opF, ↓St.ev.eq_def, ↓app_t, ↓app_m0, ↓app_m1, ↓app_m2, go_sem, *, reduceIte, ite_true, ite_false, Nat.reduceEqDiff, reduceCtorEq]; first | done | exact rfl))
    (hf : σ.ev f = .fn g caps := by (simp (disch := omega) only [↓reduceIte, ↓nxt, ↓wantS.eq_def, ↓opF, ↓St.ev.eq_def, ↓app_t, ↓app_m0, ↓app_m1, ↓app_m2, go_sem, *, reduceIte, ite_true, ite_false, Nat.reduceEqDiff, reduceCtorEq]; first | done | exact rfl))
    (has : boxP ((args.toList.map σ.ev ++ caps).map (rdV σ.m)) = some as := by (simp (disch := omega) only [boxP, rdV.eq_def, look, List.map_append, or_true, true_or, ↓reduceIte, ↓nxt, ↓wantS.eq_def, ↓opF, ↓St.ev.eq_def, ↓app_t, ↓app_m0, ↓app_m1, ↓app_m2, go_sem, *, reduceIte, ite_true, ite_false, Nat.reduceEqDiff, Nat.reduceAdd, Nat.reduceSub, Nat.reduceMul, Nat.reduceLT, Nat.reduceLeDiff, Nat.reduceBEq, Int.reduceToNat, Int.reduceLT, Int.reduceLE, Int.reduceAdd, Int.reduceSub, Int.reduceNeg, Int.reduceBEq, Int.reduceEq, reduceCtorEq, ge_iff_le, gt_iff_lt]; first | done | exact rfl))
    (hxs : boxO o.op.operands.toList = some xs := by (simp only [boxO, Op.operands, Call.operands, Array.toList_append, List.toList_toArray, List.map_cons, List.map_nil, List.append_nil, List.nil_append, List.cons_append, Option.toList, Option.toArray, Option.some.injEq, Array.toArray_toList]; first | done | exact rfl))
    (hrf : boxL ((xs.map σ.ev).flatMap refsC) = some rf := by (simp (disch := omega) only [↓reduceIte, ↓St.ev.eq_def, ↓app_t, go_sem, *, boxL, refsC.eq_def, refs.eq_def, List.flatMap_cons, List.flatMap_nil, List.nil_append, List.append_nil, List.cons_append, List.map_cons, List.map_nil, reduceIte, ite_true, ite_false, Nat.reduceEqDiff, reduceCtorEq]; first | done | exact rfl))
    (hn : isMove o.op = false := by exact rfl)
    (hok : okF P g = true := by first | assumption | exact (by kernel_rfl))
    (ha : (as.all plainG) = true := by first | exact rfl | (simp only [go_sem, plainG.eq_def, plain1, *]; first | done | exact rfl | fail))
    (hpr : noMem r = true := by first | exact rfl | (simp only [go_sem, noMem.eq_def, noMemA.eq_def, noMem1.eq_def, *]; first | done | fail)) : Run P Q (.drw ops (o :: os) log :: k) σ :=
  Run_drcall hop hg hf (boxP_eq has) hD hok ha hpr ((refsOf_of (boxO_eq hxs) hn).trans (boxL_eq hrf)) (hdst ▸ hr)
end
end Go.Proofs.Ev
