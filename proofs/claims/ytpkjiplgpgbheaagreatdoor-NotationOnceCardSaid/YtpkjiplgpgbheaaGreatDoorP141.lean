/- What the laws lean on, part 1: texts of this claim, merged and cut to what is used. -/
import Derived.Attr
import Derived.Below
import Derived.Calls
import Derived.Deep.LoopGhost
import Derived.IntWalk
import Derived.LaidEql
import Derived.Laws.BytesString
import Derived.Laws.Cells
import Derived.Laws.MakeOwn
import Derived.Laws.OwnMore
import Derived.Laws.Pointers
import Derived.Laws.Slices
import Derived.Laws.StructEq
import Derived.Lib.AppendStr
import Derived.Lib.AppendZeros
import Derived.Lib.ConvBytes
import Derived.Lib.UnsafeStr
import Derived.Orders
import Derived.Scope
import GoSem.Core.Utf8
import Derived.Test.YtpkjiplgpgbheaaGreatDoorP140
set_option linter.unusedVariables false
set_option linter.unusedSimpArgs false
set_option linter.unusedSectionVars false
namespace Go.Proofs.Ev
open Go Go.RowKit
set_option linter.unusedVariables false
set_option linter.unusedSimpArgs false
theorem nodup_inj {α : Type} {l : List α} (h : l.Nodup) {i j : Nat} (hi : i < l.length) (hj : j < l.length) (e : l[i] = l[j]) : i = j := by
  rcases Nat.lt_trichotomy i j with h1 | h1 | h1
  · exact absurd e (List.pairwise_iff_getElem.1 h i j hi hj h1)
  · exact h1
  · exact absurd e.symm (List.pairwise_iff_getElem.1 h j i hj hi h1)
theorem foldl_updm_mem {b : Id} {x : Blk} : ∀ (w : List (Id × Blk)) (m : Id → Blk), (w.map (·.1)).Nodup → (b, x) ∈ w → (w.foldl (fun m p => updm m p.1 p.2) m) b = x := by
  intro w
  induction w with
  | nil => intro m _ h; cases h
  | cons p w ih =>
    intro m hn h
    simp only [List.map_cons, List.nodup_cons] at hn
    simp only [List.foldl_cons]
    rcases List.mem_cons.1 h with e | h
    · rw [foldl_updm b w _ (by rw [← e] at hn; exact hn.1), ← e]
      simp [updm]
    · exact ih _ hn.2 h
section
variable {P : Program} {w0 : World} {foot omut : Nat → Prop} {σ : St} {c : Cx}
theorem call_sound [Tbl P] (hT : keepsF (Tbl.T P) w0 foot) {a : Act} (R : Rel w0 foot omut σ a.tmps c) {o : Oper} (hd : ∀ d, o.dst = some d → d < a.tmps.size) {args : Array Operand} {ts : Array Nat} {f : Operand} (hop : o.op = .call { callee := .value f, args := args, argTypes := ts }) {g : Nat} {caps : List PV} (hf : σ.ev f = .fn g caps) {e : Eff}
    (h : CallE P σ (o.dst.getD 0) g (args.toList.map σ.ev ++ caps) e) : DidW P w0 foot omut σ c o a e := by
  obtain ⟨ids, args', bs, r, nb, bs', hokf, hpass, hbl, hbl', hnd, hids, hbf, hbf', hnf, hres, hden, rfl⟩ := h
  intro next Q hn
  generalize hdst : o.dst.getD 0 = dst at *
  -- the arguments
  have hfv := hf ▸ R.ev (a := a) rfl f
  generalize hu : a.eval f = u at hfv
  cases hfv with
  | fn g caps cus hcl hcr =>
  let us := args.toList.map a.eval ++ cus
  have hrun : (execOp a.eval o).run P c.w = .ok (.enter g us.toArray) c.w := by
    unfold okF at hokf
    split at hokf
    · rename_i fn hfn
      simp only [Bool.and_eq_true] at hokf
      have hb : fn.body.isNone = false := by cases hq : fn.body <;> simp_all
      have hnm : (fn.name == "runtime.NumGoroutine") = false := by simpa [bne] using hokf.1
      have harr : Array.map a.eval args ++ cus.toArray = us.toArray := by
        apply Array.ext'
        simp [us]
      simp only [execOp, hop, resolve, hu, Deferred.ofValue, Sem.run_bind, Sem.run_pure, Result.andThen_ok, invoke, callFunc, program, Sem.run, hfn]
      simp only [hnm, hb, Bool.false_eq_true, if_false, Sem.run_pure, Array.empty_append, harr]
    · cases hokf
  have hargs : ∀ (i : Nat) (x : PV) (v : Value), (args.toList.map σ.ev ++ caps)[i]? = some x → us[i]? = some v → RelV c x v := by
    intro i x v hx hv
    by_cases hi : i < args.toList.length
    · rw [List.getElem?_append_left (by simpa using hi)] at hx
      rw [List.getElem?_append_left (by simpa using hi)] at hv
      rw [List.getElem?_map] at hx hv
      cases hq : args.toList[i]? with
      | none => rw [hq] at hx; cases hx
      | some q => rw [hq] at hx hv; cases hx; cases hv; exact R.ev rfl q
    · rw [List.getElem?_append_right (by simpa using hi)] at hx
      rw [List.getElem?_append_right (by simpa using hi)] at hv
      simp only [List.length_map] at hx hv
      exact hcr _ x v hx hv
  obtain ⟨hpl, hpg⟩ := passL_get hpass
  have hidv : ∀ (k : Nat) (p : Id × Nat), ids[k]? = some p → c.ver p.1 = p.2 := fun k p hk => (R.ver _).trans (hids k p hk).1
  have hlive : ∀ (k : Nat) (p : Id × Nat), ids[k]? = some p → ∃ x, (σ.m p.1).live = some x ∧ bs[k]? = some x := by
    intro k p hk
    have hlt : k < bs.length := by rw [hbl]; exact (List.getElem?_eq_some_iff.1 hk).1
    exact ⟨bs[k], by rw [(hids k p hk).2.1]; exact List.getElem?_eq_getElem hlt, List.getElem?_eq_getElem hlt⟩
  -- where the callee begins
  let c0 := cx0 c ids
  let foot0 : Nat → Prop := fun k => ∃ (j : Nat) (p : Id × Nat) (cap : Nat), ids[j]? = some p ∧ c.at_ p.1 = some (k, cap)
  let omut0 : Nat → Prop := fun k => c.mu k ∧ ¬ foot0 k
  have hfmu : ∀ k, foot0 k → c.mu k := by
    rintro k ⟨j, p, cap, hj, ha⟩
    obtain ⟨x, hx, _⟩ := hlive j p hj
    exact (R.mt k).2 (.inr ⟨p.1, x, cap, hx, ha⟩)
  have hfb : ∀ k, foot0 k → k < c.w.heap.size ∧ (c.base ≤ k ∨ foot k) := by
    rintro k ⟨j, p, cap, hj, ha⟩
    obtain ⟨x, hx, _⟩ := hlive j p hj
    exact (R.mem p.1 x hx).lt ha
  have hmulive : ∀ k, c.mu k → k < c.w.heap.size := by
    intro k hk
    rcases (R.mt k).1 hk with ho | ⟨b, x, cap, h1, h2⟩
    · exact Nat.lt_of_lt_of_le (R.om k ho).1 R.bs
    · exact ((R.mem b x h1).lt h2).1
  have hc0 : Rel c.w foot0 omut0 (stM (m0 bs)) #[] c0 := by
    constructor
    · intro i; exact .dead _
    · intro b; cases b <;> rfl
    · intro b x hx
      cases b with
      | loc n j => simp [stM, m0] at hx
      | ext k =>
        have hx' : bs[k]? = some x := hx
        have hk : k < ids.length := by rw [← hbl]; exact (List.getElem?_eq_some_iff.1 hx').1
        obtain ⟨y, hy, hy'⟩ := hlive k ids[k] (List.getElem?_eq_getElem hk)
        rw [hx'] at hy'
        cases hy'
        have hB := R.mem _ _ hy
        have hg : ids[k]? = some ids[k] := List.getElem?_eq_getElem hk
        refine hB.move (List.all_eq_true.1 hbf x (List.mem_of_getElem? hx')) (by simp [c0, cx0, hg]) (by simp [c0, cx0, hg]) rfl (fun _ hm => hm) (fun g' cap ha => .inr ⟨k, ids[k], cap, hg, ha⟩)
    · intro k
      constructor
      · intro hk
        by_cases hf0 : foot0 k
        · obtain ⟨j, p, cap, hj, ha⟩ := hf0
          obtain ⟨x, hx, hx'⟩ := hlive j p hj
          exact .inr ⟨.ext j, x, cap, hx', by simp [c0, cx0, hj, ha]⟩
        · exact .inl ⟨hk, hf0⟩
      · rintro (⟨hk, _⟩ | ⟨b, x, cap, h1, h2⟩)
        · exact hk
        · cases b with
          | loc n j => simp [stM, m0] at h1
          | ext j =>
            have hx' : bs[j]? = some x := h1
            have hj : j < ids.length := by rw [← hbl]; exact (List.getElem?_eq_some_iff.1 hx').1
            have hg : ids[j]? = some ids[j] := List.getElem?_eq_getElem hj
            simp only [c0, cx0, hg, Option.bind_some] at h2
            exact hfmu k ⟨j, _, cap, hg, h2⟩
    · intro b b' x x' g' cap cap' h1 h2 h3 h4
      cases b with
      | loc n j => simp [stM, m0] at h1
      | ext j =>
        cases b' with
        | loc n j' => simp [stM, m0] at h2
        | ext j' =>
          have hx1 : bs[j]? = some x := h1
          have hx2 : bs[j']? = some x' := h2
          have hj : j < ids.length := by rw [← hbl]; exact (List.getElem?_eq_some_iff.1 hx1).1
          have hj' : j' < ids.length := by rw [← hbl]; exact (List.getElem?_eq_some_iff.1 hx2).1
          have hg : ids[j]? = some ids[j] := List.getElem?_eq_getElem hj
          have hg' : ids[j']? = some ids[j'] := List.getElem?_eq_getElem hj'
          simp only [c0, cx0, hg, hg', Option.bind_some] at h3 h4
          obtain ⟨y, hy, _⟩ := hlive j _ hg
          obtain ⟨y', hy', _⟩ := hlive j' _ hg'
          have he := R.inj _ _ y y' g' cap cap' hy hy' h3 h4
          have : j = j' := by
            have h5 : (ids.map (·.1))[j]'(by simpa using hj) = (ids.map (·.1))[j']'(by simpa using hj') := by simpa using he
            exact nodup_inj hnd (by simpa using hj) (by simpa using hj') h5
          rw [this]
    · rintro k ⟨hk, hf0⟩; exact ⟨hmulive k hk, hf0⟩
    · exact Fr.refl _ _ _
    · exact Nat.le_refl _
    · exact fun k hk => (hfb k hk).1
    · exact Nat.le_refl _
  have hT0 : keepsF (Tbl.T P) c.w foot0 := by
    intro w' hw'
    refine hT w' (fun k hk hf => ?_)
    have hk' : k < c.base := Nat.lt_of_lt_of_le hk R.bw
    rw [hw' k (Nat.lt_of_lt_of_le hk' R.bs) (fun h0 => by
      rcases (hfb k h0).2 with h1 | h1
      · omega
      · exact hf h1)]
    exact R.fr.block k hk' hf
  have hcall := hden us foot0 omut0 c0 hT0 rfl (by rw [hpl]; simp [us, hcl]) (fun i y v hy hv => by
    obtain ⟨x, hx, hxy⟩ := hpg i y hy
    exact passV_rel hidv (hargs i x v hx hv) hxy) hc0
  unfold Oper.wp
  rw [hrun, Oper.upon_enter]
  refine Calls.mono hcall ?_
  rintro en w' ⟨u, d, rfl, hw, hbase, hle0, hru, hRd⟩
  subst hw
  have hbase' : d.base = c.w.heap.size := hbase
  show next (a.put o.dst u) d.w
  -- the memory behind the call
  let ef := callEff σ.m dst ids r nb bs'
  let m' := (σ.app o.dst ef).m
  have hkeys : (ef.wr.map (·.1)) = ids.map (·.1) ++ (nb.zipIdx.map fun p => Id.loc dst p.2) := by
    simp only [ef, callEff, List.map_append, List.map_map]
    congr 1
    have : ∀ (l : List (Id × Nat)) (l' : List Cont), l'.length = l.length → List.map ((fun x : Id × Blk => x.1) ∘ fun p : (Id × Nat) × Cont => (p.1.1, (⟨p.1.2, some p.2⟩ : Blk))) (l.zip l') = l.map (·.1) := by
      intro l
      induction l with
      | nil => intro l' _; rfl
      | cons p l ih =>
        intro l' hl
        cases l' with
        | nil => simp at hl
        | cons q l' => simp only [List.zip_cons_cons, List.map_cons, Function.comp]; rw [← ih l' (by simpa using hl)]
    exact this ids bs' hbl'
  have hlocs : ∀ (b : Id), b ∈ (nb.zipIdx.map fun p => Id.loc dst p.2) → ∃ j, j < nb.length ∧ b = .loc dst j := by
    intro b hb
    obtain ⟨p, hp, rfl⟩ := List.mem_map.1 hb
    obtain ⟨j, hj⟩ := List.mem_iff_getElem?.1 hp
    rw [List.getElem?_zipIdx] at hj
    cases hq : nb[j]? with
    | none => rw [hq] at hj; cases hj
    | some q => rw [hq] at hj; cases hj; exact ⟨j, (List.getElem?_eq_some_iff.1 hq).1, by simp⟩
  have hidk : ∀ b, b ∈ ids.map (·.1) → ∃ (k : Nat) (p : Id × Nat), ids[k]? = some p ∧ p.1 = b := by
    intro b hb
    obtain ⟨p, hp, rfl⟩ := List.mem_map.1 hb
    obtain ⟨k, hk⟩ := List.mem_iff_getElem?.1 hp
    exact ⟨k, p, hk, rfl⟩
  have hnodup : (ef.wr.map (·.1)).Nodup := by
    rw [hkeys, List.nodup_append]
    refine ⟨hnd, ?_, ?_⟩
    · have : ∀ (l : List Cont) (k : Nat), ((l.zipIdx k).map fun p => Id.loc dst p.2).Nodup ∧ ∀ b ∈ ((l.zipIdx k).map fun p => Id.loc dst p.2), ∃ j, k ≤ j ∧ b = .loc dst j := by
        intro l
        induction l with
        | nil => intro k; exact ⟨List.nodup_nil, by simp⟩
        | cons x l ih =>
          intro k
          obtain ⟨i1, i2⟩ := ih (k + 1)
          simp only [List.zipIdx_cons, List.map_cons]
          refine ⟨List.nodup_cons.2 ⟨fun hm => ?_, i1⟩, fun b hb => ?_⟩
          · obtain ⟨j, hj, e⟩ := i2 _ hm
            injection e with _ e
            omega
          · rcases List.mem_cons.1 hb with e | hb
            · exact ⟨k, Nat.le_refl _, e⟩
            · obtain ⟨j, hj, e⟩ := i2 b hb
              exact ⟨j, by omega, e⟩
      exact (this nb 0).1
    · intro b hb b' hb' e
      subst e
      obtain ⟨k, p, hk, rfl⟩ := hidk b hb
      obtain ⟨j, _, hj⟩ := hlocs _ hb'
      exact (hids k p hk).2.2 j hj
  have hm_id : ∀ (k : Nat) (p : Id × Nat) (y : Cont), ids[k]? = some p → bs'[k]? = some y → m' p.1 = ⟨p.2, some y⟩ := by
    intro k p y hk hy
    refine foldl_updm_mem ef.wr σ.m hnodup (List.mem_append.2 (.inl (List.mem_map.2 ⟨(p, y), ?_, rfl⟩)))
    refine List.mem_iff_getElem?.2 ⟨k, ?_⟩
    rw [List.getElem?_zip_eq_some]
    exact ⟨hk, hy⟩
  have hm_loc : ∀ (j : Nat) (y : Cont), nb[j]? = some y → m' (.loc dst j) = ⟨(σ.m (.loc dst j)).ver + 1, some y⟩ := by
    intro j y hy
    refine foldl_updm_mem ef.wr σ.m hnodup (List.mem_append.2 (.inr (List.mem_map.2 ⟨(y, j), ?_, rfl⟩)))
    exact List.mem_iff_getElem?.2 ⟨j, by rw [List.getElem?_zipIdx, hy]; simp⟩
  have hm_other : ∀ b, b ∉ ids.map (·.1) → (∀ j, j < nb.length → b ≠ .loc dst j) → m' b = σ.m b := by
    intro b h1 h2
    refine foldl_updm b ef.wr σ.m ?_
    rw [hkeys, List.mem_append]
    rintro (h | h)
    · exact h1 h
    · obtain ⟨j, hj, e⟩ := hlocs b h
      exact h2 j hj e
  have hcase : ∀ b, (∃ (k : Nat) (p : Id × Nat), ids[k]? = some p ∧ p.1 = b) ∨ (∃ (j : Nat) (y : Cont), nb[j]? = some y ∧ b = .loc dst j) ∨ (b ∉ ids.map (·.1) ∧ ∀ j, j < nb.length → b ≠ .loc dst j) := by
    intro b
    by_cases h1 : b ∈ ids.map (·.1)
    · exact .inl (hidk b h1)
    · by_cases h2 : ∃ j, j < nb.length ∧ b = .loc dst j
      · obtain ⟨j, hj, e⟩ := h2
        exact .inr (.inl ⟨j, nb[j], List.getElem?_eq_getElem hj, e⟩)
      · exact .inr (.inr ⟨h1, fun j hj e => h2 ⟨j, hj, e⟩⟩)
  have hbs' : ∀ (k : Nat) (p : Id × Nat), ids[k]? = some p → ∃ y, bs'[k]? = some y := by
    intro k p hk
    have hlt : k < bs'.length := by rw [hbl']; exact (List.getElem?_eq_some_iff.1 hk).1
    exact ⟨_, List.getElem?_eq_getElem hlt⟩
  let atf : Id → Option (Nat × Nat) := fun b => match b with
    | .loc n j => if n = dst ∧ j < nb.length then d.at_ (.loc j 0) else c.at_ (.loc n j)
    | .ext k => c.at_ (.ext k)
  let szf : Id → Nat := fun b => match b with
    | .loc n j => if n = dst ∧ j < nb.length then d.sz (.loc j 0) else c.sz (.loc n j)
    | .ext k => c.sz (.ext k)
  let c' : Cx := { w := d.w, base := c.base, mu := fun k => omut k ∨ ∃ b x cap, (m' b).live = some x ∧ atf b = some (k, cap), at_ := atf, sz := szf, ver := fun b => (m' b).ver }
  have hat_loc : ∀ j, j < nb.length → c'.at_ (.loc dst j) = d.at_ (.loc j 0) ∧ c'.sz (.loc dst j) = d.sz (.loc j 0) := fun j hj => ⟨by simp [c', atf, hj], by simp [c', szf, hj]⟩
  have hat_other : ∀ b, (∀ j, j < nb.length → b ≠ .loc dst j) → c'.at_ b = c.at_ b ∧ c'.sz b = c.sz b := by
    intro b hb
    cases b with
    | ext k => exact ⟨rfl, rfl⟩
    | loc n j =>
      have : ¬ (n = dst ∧ j < nb.length) := by rintro ⟨rfl, hj⟩; exact hb j hj rfl
      exact ⟨by simp [c', atf, this], by simp [c', szf, this]⟩
  have hat_id : ∀ (k : Nat) (p : Id × Nat), ids[k]? = some p → c'.at_ p.1 = c.at_ p.1 ∧ c'.sz p.1 = c.sz p.1 := fun k p hk => hat_other p.1 (fun j _ => (hids k p hk).2.2 j)
  have hext : ∀ (k : Nat) (p : Id × Nat), ids[k]? = some p → d.at_ (.ext k) = c.at_ p.1 ∧ d.sz (.ext k) = c.sz p.1 := by
    intro k p hk
    have hv : c0.ver (.ext k) = d.ver (.ext k) := by rw [hRd.ver (.ext k)]; rfl
    obtain ⟨s1, s2⟩ := hle0.same (.ext k) hv
    exact ⟨s1.trans (by simp [c0, cx0, hk]), s2.trans (by simp [c0, cx0, hk])⟩
  have hnbB : ∀ (j : Nat) (y : Cont), nb[j]? = some y → RelB d foot0 (.loc j 0) y := fun j y hy => hRd.mem (.loc j 0) y hy
  have hfoot_kept : ∀ k, k < c.w.heap.size → ¬ foot0 k → d.w.heap[k]? = c.w.heap[k]? := fun k hk hf0 => hRd.fr.block k (by rw [hbase']; exact hk) hf0
  have hid_live : ∀ (b : Id), b ∉ ids.map (·.1) → ∀ (x : Cont) (k cap : Nat), (σ.m b).live = some x → c.at_ b = some (k, cap) → ¬ foot0 k := by
    rintro b hb x k cap hx ha ⟨j, p, cap', hj, hp⟩
    obtain ⟨y, hy, _⟩ := hlive j p hj
    have := R.inj b p.1 x y k cap cap' hx hy ha hp
    exact hb (by rw [this]; exact List.mem_map.2 ⟨p, List.mem_of_getElem? hj, rfl⟩)
  have hmud : ∀ k, c'.mu k → d.mu k := by
    intro k hk
    refine (hRd.mt k).2 ?_
    rcases hk with ho | ⟨b, x, cap, h1, h2⟩
    · refine .inl ⟨(R.mt k).2 (.inl ho), fun hf0 => ?_⟩
      have h3 := R.om k ho
      rcases (hfb k hf0).2 with h | h
      · omega
      · exact h3.2 h
    · have h2' : c'.at_ b = some (k, cap) := h2
      rcases hcase b with ⟨j, p, hj, rfl⟩ | ⟨j, y, hj, rfl⟩ | ⟨hb1, hb2⟩
      · obtain ⟨y, hy⟩ := hbs' j p hj
        exact .inr ⟨.ext j, y, cap, hy, by rw [(hext j p hj).1, ← (hat_id j p hj).1]; exact h2'⟩
      · exact .inr ⟨.loc j 0, y, cap, hj, by rw [← (hat_loc j (List.getElem?_eq_some_iff.1 hj).1).1]; exact h2'⟩
      · rw [hm_other b hb1 hb2] at h1
        rw [(hat_other b hb2).1] at h2'
        exact .inl ⟨(R.mt k).2 (.inr ⟨b, x, cap, h1, h2'⟩), hid_live b hb1 x k cap h1 h2'⟩
  have hle : c.le c' := by
    refine ⟨rfl, hRd.fr.size, fun k hk hm => ⟨?_, ?_⟩, fun b => ?_, fun b hb => ?_⟩
    · rintro (ho | ⟨b, x, cap, h1, h2⟩)
      · exact hm ((R.mt k).2 (.inl ho))
      · have h2' : c'.at_ b = some (k, cap) := h2
        rcases hcase b with ⟨j, p, hj, rfl⟩ | ⟨j, y, hj, rfl⟩ | ⟨hb1, hb2⟩
        · rw [(hat_id j p hj).1] at h2'
          exact hm (hfmu k ⟨j, p, cap, hj, h2'⟩)
        · rw [(hat_loc j (List.getElem?_eq_some_iff.1 hj).1).1] at h2'
          rcases ((hnbB j y hj).lt h2').2 with h | h
          · rw [hbase'] at h; omega
          · exact hm (hfmu k h)
        · rw [hm_other b hb1 hb2] at h1
          rw [(hat_other b hb2).1] at h2'
          exact hm ((R.mt k).2 (.inr ⟨b, x, cap, h1, h2'⟩))
    · exact hfoot_kept k hk (fun hf0 => hm (hfmu k hf0))
    · show c.ver b ≤ (m' b).ver
      rw [R.ver b]
      rcases hcase b with ⟨j, p, hj, rfl⟩ | ⟨j, y, hj, rfl⟩ | ⟨hb1, hb2⟩
      · obtain ⟨y, hy⟩ := hbs' j p hj
        rw [hm_id j p y hj hy, (hids j p hj).1]
        exact Nat.le_refl _
      · rw [hm_loc j y hj]; simp
      · rw [hm_other b hb1 hb2]; exact Nat.le_refl _
    · rcases hcase b with ⟨j, p, hj, rfl⟩ | ⟨j, y, hj, rfl⟩ | ⟨hb1, hb2⟩
      · exact hat_id j p hj
      · exfalso
        have hb' : c.ver (.loc dst j) = (m' (.loc dst j)).ver := hb
        rw [hm_loc j y hj, R.ver] at hb'
        simp at hb'
      · exact hat_other b hb2
  have hBall : ∀ b x, (m' b).live = some x → RelB c' foot b x := by
    intro b x hx
    rcases hcase b with ⟨j, p, hj, rfl⟩ | ⟨j, y, hj, rfl⟩ | ⟨hb1, hb2⟩
    · obtain ⟨y, hy⟩ := hbs' j p hj
      rw [hm_id j p y hj hy] at hx
      cases hx
      have hB := hRd.mem (.ext j) x hy
      refine hB.move (List.all_eq_true.1 hbf' x (List.mem_of_getElem? hy)) ((hat_id j p hj).1.trans (hext j p hj).1.symm) ((hat_id j p hj).2.trans (hext j p hj).2.symm) rfl (fun k hk hk' => hk (hmud k hk')) (fun g' cap ha => ?_)
      rw [(hext j p hj).1] at ha
      obtain ⟨z, hz, _⟩ := hlive j p hj
      exact ((R.mem p.1 z hz).lt ha).2
    · rw [hm_loc j y hj] at hx
      cases hx
      have hjl := (List.getElem?_eq_some_iff.1 hj).1
      refine (hnbB j x hj).move (List.all_eq_true.1 hnf x (List.mem_of_getElem? hj)) (hat_loc j hjl).1 (hat_loc j hjl).2 rfl (fun k hk hk' => hk (hmud k hk')) (fun g' cap ha => ?_)
      rcases ((hnbB j x hj).lt ha).2 with h | h
      · exact .inl (Nat.le_trans R.bs (by rw [← hbase']; exact h))
      · exact (hfb g' h).2
    · rw [hm_other b hb1 hb2] at hx
      refine (R.mem b x hx).le hle ?_ (fun g' cap ha => hfoot_kept g' ((R.mem b x hx).lt ha).1 (hid_live b hb1 x g' cap hx ha))
      show c.ver b = (m' b).ver
      rw [hm_other b hb1 hb2]; exact R.ver b
  have hinj : ∀ b b' x x' g' cap cap', (m' b).live = some x → (m' b').live = some x' → c'.at_ b = some (g', cap) → c'.at_ b' = some (g', cap') → b = b' := by
    intro b b' x x' g' cap cap' h1 h2 h3 h4
    have hone : ∀ (b : Id) (x : Cont) (cap : Nat), (m' b).live = some x → c'.at_ b = some (g', cap) → (∃ y, (σ.m b).live = some y ∧ c.at_ b = some (g', cap) ∧ ∀ j, j < nb.length → b ≠ .loc dst j) ∨ (∃ j y, nb[j]? = some y ∧ b = .loc dst j ∧ d.at_ (.loc j 0) = some (g', cap)) := by
      intro b x cap h1 h3
      rcases hcase b with ⟨j, p, hj, rfl⟩ | ⟨j, y, hj, rfl⟩ | ⟨hb1, hb2⟩
      · obtain ⟨y, hy, _⟩ := hlive j p hj
        exact .inl ⟨y, hy, by rw [← (hat_id j p hj).1]; exact h3, fun j' _ => (hids j p hj).2.2 j'⟩
      · exact .inr ⟨j, y, hj, rfl, by rw [← (hat_loc j (List.getElem?_eq_some_iff.1 hj).1).1]; exact h3⟩
      · exact .inl ⟨x, by rw [← hm_other b hb1 hb2]; exact h1, by rw [← (hat_other b hb2).1]; exact h3, hb2⟩
    have hmix : ∀ (b : Id) (y : Cont) (cap : Nat) (j : Nat) (z : Cont) (cap' : Nat), (σ.m b).live = some y → c.at_ b = some (g', cap) → nb[j]? = some z → d.at_ (.loc j 0) = some (g', cap') → False := by
      intro b y cap j z cap' p1 p2 p3 p4
      have hlt := ((R.mem b y p1).lt p2).1
      rcases ((hnbB j z p3).lt p4).2 with h | h
      · rw [hbase'] at h; omega
      · obtain ⟨k, p, cap2, hk, hp⟩ := h
        obtain ⟨v, hv⟩ := hbs' k p hk
        have := hRd.inj (.ext k) (.loc j 0) v z g' cap2 cap' hv p3 (by rw [(hext k p hk).1]; exact hp) p4
        cases this
    rcases hone b x cap h1 h3 with ⟨y, a1, a2, _⟩ | ⟨j, y, a1, a2, a3⟩
    · rcases hone b' x' cap' h2 h4 with ⟨y', b1, b2, _⟩ | ⟨j', y', b1, b2, b3⟩
      · exact R.inj b b' y y' g' cap cap' a1 b1 a2 b2
      · exact (hmix b y cap j' y' cap' a1 a2 b1 b3).elim
    · rcases hone b' x' cap' h2 h4 with ⟨y', b1, b2, _⟩ | ⟨j', y', b1, b2, b3⟩
      · exact (hmix b' y' cap' j y cap b1 b2 a1 a3).elim
      · have := hRd.inj (.loc j 0) (.loc j' 0) y y' g' cap cap' a1 b1 a3 b3
        injection this with this
        rw [a2, b2, this]
  have hRc : Rel w0 foot omut { σ with m := m' } a.tmps c' := by
    constructor
    · exact fun i => (R.tm i).le hle
    · exact fun b => rfl
    · exact hBall
    · exact fun k => Iff.rfl
    · exact hinj
    · exact R.om
    · refine R.fr.trans ⟨hRd.fr.os, hRd.fr.tape, hRd.fr.output, hRd.fr.size, fun k hk hfk => ?_⟩
      refine hfoot_kept k (Nat.lt_of_lt_of_le hk R.bs) (fun hf0 => ?_)
      rcases (hfb k hf0).2 with h | h
      · have h' : c.base ≤ k := h
        have hk' : k < c.base := hk
        omega
      · exact hfk h
    · exact Nat.le_trans R.bs hRd.fr.size
    · exact R.fb
    · exact R.bw
  have hval : RelV c' (renR σ.m dst r) u := renR_rel (c := d) (d := c') rfl (fun k hk hk' => hk (hmud k hk')) (fun b => by rw [hRd.ver b]; cases b with | ext k => rfl | loc n j => cases j <;> rfl) (fun j hj => ⟨(hat_loc j hj).1, (hat_loc j hj).2, by show (m' (.loc dst j)).ver = _; rw [hm_loc j nb[j] (List.getElem?_eq_getElem hj)]⟩) hru hres
  refine hn (a.put o.dst u) c' rfl hle (Act.put_def _ _ _) (Act.put_size _ _ _) ?_
  rw [Act.put_tmps]
  cases hq : o.dst with
  | none =>
    have : ({ σ with m := m' } : St) = σ.app none ef := by
      simp only [m', hq, St.app]
    rw [← this]
    exact hRc
  | some q =>
    have : σ.app (some q) ef = { t := upd σ.t q (renR σ.m dst r), m := m' } := by
      simp only [m', hq, St.app]
      rfl
    rw [this]
    exact hRc.put q (hd q hq) _ u hval
end
end Go.Proofs.Ev
namespace Go.Proofs.Ev
open Go Go.RowKit
set_option linter.unusedVariables false
set_option linter.unusedSimpArgs false
def liftL (φ : PV → Option PV) : List PV → Option (List PV)
  | [] => some []
  | x :: l => (φ x).bind fun y => (liftL φ l).map (y :: ·)
def liftF (φ : PV → Option PV) : PV → Option PV
  | .fn f caps => (liftL φ caps).map (.fn f)
  | x => φ x
def liftA (φ : PV → Option PV) : PV → Option PV
  | .agg cs => (liftL (liftF φ) cs).map .agg
  | x => liftF φ x
def liftR (φ : PV → Option PV) : PV → Option PV
  | .tup vs => (liftL (liftA φ) vs).map .tup
  | x => liftA φ x
def liftLL (φ : PV → Option PV) : List (List PV) → Option (List (List PV))
  | [] => some []
  | r :: l => (liftL φ r).bind fun y => (liftLL φ l).map (y :: ·)
def liftC (φ : PV → Option PV) : Cont → Option Cont
  | .rows fl e sz rs => if fl = true then some (.rows fl e sz rs) else (liftLL (liftF φ) rs).map (.rows fl e sz)
  | .iter _ _ => none
def liftCs (φ : PV → Option PV) : List Cont → Option (List Cont)
  | [] => some []
  | x :: l => (liftC φ x).bind fun y => (liftCs φ l).map (y :: ·)
/-- Blocks that may have been given up. -/
def liftOs (φ : PV → Option PV) : List (Option Cont) → Option (List (Option Cont))
  | [] => some []
  | none :: l => (liftOs φ l).map (none :: ·)
  | some x :: l => (liftC φ x).bind fun y => (liftOs φ l).map (some y :: ·)
/-- Values as the called function names them. -/
def in1 (ids : List (Id × Nat)) : PV → Option PV
  | .ptr b v i o => (posOf ids b v).map fun k => .ptr (.ext k) 0 i o
  | .own b v n => (posOf ids b v).map fun k => .own (.ext k) 0 n
  | .rp row o => some (.rp row o)
  | x => if x.sf = true then some x else none
/-- Values as the caller names them, behind the call. -/
def out1 (ids : List (Id × Nat)) (vs : List Nat) (m : Id → Blk) (dst n : Nat) : PV → Option PV
  | .ptr (.ext k) v i o => (ids[k]?).bind fun p => if vs[k]? = some v then some (.ptr p.1 (p.2 + v) i o) else none
  | .ptr (.loc j 0) v i o => if v = 1 ∧ j < n then some (.ptr (.loc dst j) ((m (.loc dst j)).ver + 1) i o) else none
  | .own (.ext k) v q => (ids[k]?).bind fun p => if vs[k]? = some v then some (.own p.1 (p.2 + v) q) else none
  | .own (.loc j 0) v q => if v = 1 ∧ j < n then some (.own (.loc dst j) ((m (.loc dst j)).ver + 1) q) else none
  | .rp row o => some (.rp row o)
  | x => if x.sf = true then some x else none
def m1D (bs' : List (Nat × Option Cont)) (nb : List Cont) : Id → Blk
  | .ext k => match bs'[k]? with | some p => ⟨p.1, p.2⟩ | none => ⟨0, none⟩
  | .loc j 0 => ⟨1, nb[j]?⟩
  | .loc _ (_ + 1) => ⟨1, none⟩
/-- What a function does that is handed blocks that name each other; a block that it moves has another number behind it. -/
def DenD (P : Program) [Tbl P] (f : Nat) (args : List PV) (bs : List Cont) (r : PV) (nb : List Cont) (bs' : List (Nat × Option Cont)) : Prop :=
  ∀ (us : List Value) (foot omut : Nat → Prop) (c : Cx), keepsF (Tbl.T P) c.w foot → c.base = c.w.heap.size → args.length = us.length → (∀ (i : Nat) (x : PV) (u : Value), args[i]? = some x → us[i]? = some u → RelV c x u) → Rel c.w foot omut (stM (m0 bs)) #[] c →
    Calls P f us.toArray c.w fun e w' => ∃ u d, e = .returned u ∧ d.w = w' ∧ d.base = c.base ∧ c.le d ∧ RelV d r u ∧ Rel c.w foot omut (stM (m1D bs' nb)) #[] d
def effD (m : Id → Blk) (dst : Nat) (ids : List (Id × Nat)) (vs : List Nat) (rO : PV) (nbO : List Cont) (bsO : List (Option Cont)) : Eff :=
  ⟨rO, [], (((ids.zip vs).zip bsO).map fun p => (p.1.1.1, ⟨p.1.1.2 + p.1.2, p.2⟩)) ++ (nbO.zipIdx.map fun p => (Id.loc dst p.2, ⟨(m (.loc dst p.2)).ver + 1, some p.1⟩))⟩
def CallD (P : Program) [Tbl P] (σ : St) (dst f : Nat) (args : List PV) (e : Eff) : Prop :=
  ∃ (ids : List (Id × Nat)) (args' : List PV) (bsC bs : List Cont) (r : PV) (nb : List Cont) (bs' : List (Nat × Option Cont)) (rO : PV) (nbO : List Cont) (bsO : List (Option Cont)), okF P f = true ∧ liftL (liftA (in1 ids)) args = some args' ∧ bsC.length = ids.length ∧ bs'.length = ids.length ∧ (ids.map (·.1)).Nodup ∧
    (∀ (k : Nat) (p : Id × Nat), ids[k]? = some p → (σ.m p.1).ver = p.2 ∧ (σ.m p.1).live = bsC[k]? ∧ ∀ j, p.1 ≠ .loc dst j) ∧ liftCs (in1 ids) bsC = some bs ∧
    liftR (out1 ids (bs'.map (·.1)) σ.m dst nb.length) r = some rO ∧ liftCs (out1 ids (bs'.map (·.1)) σ.m dst nb.length) nb = some nbO ∧ liftOs (out1 ids (bs'.map (·.1)) σ.m dst nb.length) (bs'.map (·.2)) = some bsO ∧
    DenD P f args' bs r nb bs' ∧ e = effD σ.m dst ids (bs'.map (·.1)) rO nbO bsO
theorem bindS {α β : Type} {x : Option α} {f : α → Option β} {y : β} (h : x.bind f = some y) : ∃ a, x = some a ∧ f a = some y := by
  cases x with
  | none => cases h
  | some a => exact ⟨a, rfl, h⟩
theorem mapS {α β : Type} {x : Option α} {f : α → β} {y : β} (h : x.map f = some y) : ∃ a, x = some a ∧ f a = y := by
  cases x with
  | none => cases h
  | some a => exact ⟨a, rfl, Option.some.inj h⟩
theorem liftL_get {φ : PV → Option PV} : ∀ {xs ys : List PV}, liftL φ xs = some ys → ys.length = xs.length ∧ ∀ (i : Nat) (y : PV), ys[i]? = some y → ∃ x, xs[i]? = some x ∧ φ x = some y := by
  intro xs
  induction xs with
  | nil => intro ys h; cases h; exact ⟨rfl, by simp⟩
  | cons x xs ih =>
    intro ys h
    obtain ⟨y, hy, h⟩ := bindS h
    obtain ⟨zs, hz, rfl⟩ := mapS h
    obtain ⟨i1, i2⟩ := ih hz
    refine ⟨by simp [i1], fun i q hq => ?_⟩
    cases i with
    | zero => cases hq; exact ⟨x, rfl, hy⟩
    | succ i => simpa using i2 i q (by simpa using hq)
theorem liftLL_get {φ : PV → Option PV} : ∀ {xs ys : List (List PV)}, liftLL φ xs = some ys → ys.length = xs.length ∧ ∀ (i : Nat) (y : List PV), ys[i]? = some y → ∃ x, xs[i]? = some x ∧ liftL φ x = some y := by
  intro xs
  induction xs with
  | nil => intro ys h; cases h; exact ⟨rfl, by simp⟩
  | cons x xs ih =>
    intro ys h
    obtain ⟨y, hy, h⟩ := bindS h
    obtain ⟨zs, hz, rfl⟩ := mapS h
    obtain ⟨i1, i2⟩ := ih hz
    refine ⟨by simp [i1], fun i q hq => ?_⟩
    cases i with
    | zero => cases hq; exact ⟨x, rfl, hy⟩
    | succ i => simpa using i2 i q (by simpa using hq)
theorem liftCs_get {φ : PV → Option PV} : ∀ {xs ys : List Cont}, liftCs φ xs = some ys → ys.length = xs.length ∧ ∀ (i : Nat) (y : Cont), ys[i]? = some y → ∃ x, xs[i]? = some x ∧ liftC φ x = some y := by
  intro xs
  induction xs with
  | nil => intro ys h; cases h; exact ⟨rfl, by simp⟩
  | cons x xs ih =>
    intro ys h
    obtain ⟨y, hy, h⟩ := bindS h
    obtain ⟨zs, hz, rfl⟩ := mapS h
    obtain ⟨i1, i2⟩ := ih hz
    refine ⟨by simp [i1], fun i q hq => ?_⟩
    cases i with
    | zero => cases hq; exact ⟨x, rfl, hy⟩
    | succ i => simpa using i2 i q (by simpa using hq)
theorem liftOs_get {φ : PV → Option PV} : ∀ {xs ys : List (Option Cont)}, liftOs φ xs = some ys → ys.length = xs.length ∧ ∀ (i : Nat) (y : Option Cont), ys[i]? = some y → ∃ x, xs[i]? = some x ∧ ∀ z, y = some z → ∃ q, x = some q ∧ liftC φ q = some z := by
  intro xs
  induction xs with
  | nil => intro ys h; cases h; exact ⟨rfl, by simp⟩
  | cons x xs ih =>
    intro ys h
    cases x with
    | none =>
      obtain ⟨zs, hz, rfl⟩ := mapS h
      obtain ⟨i1, i2⟩ := ih hz
      refine ⟨by simp [i1], fun i q hq => ?_⟩
      cases i with
      | zero => cases hq; exact ⟨none, rfl, fun z hz => by cases hz⟩
      | succ i => simpa using i2 i q (by simpa using hq)
    | some x =>
      obtain ⟨y, hy, h⟩ := bindS h
      obtain ⟨zs, hz, rfl⟩ := mapS h
      obtain ⟨i1, i2⟩ := ih hz
      refine ⟨by simp [i1], fun i q hq => ?_⟩
      cases i with
      | zero => cases hq; exact ⟨some x, rfl, fun z hz => by cases hz; exact ⟨x, rfl, hy⟩⟩
      | succ i => simpa using i2 i q (by simpa using hq)
/-- A change of names that is true. -/
structure Moves (φ : PV → Option PV) (c d : Cx) : Prop where
  rel : ∀ (x y : PV) (u : Value), φ x = some y → RelV c x u → RelV d y u
  one : ∀ (x y : PV), φ x = some y → y.one = true
section
variable {c d : Cx} {φ : PV → Option PV}
theorem Moves.f (h : Moves φ c d) : Moves (liftF φ) c d where
  rel := by
    intro x y u hx hu
    unfold liftF at hx
    split at hx
    · obtain ⟨ys, hy, rfl⟩ := mapS hx
      obtain ⟨i1, i2⟩ := liftL_get hy
      cases hu with
      | fn f caps us hl hr =>
        refine .fn _ _ us (i1.trans hl) (fun i q u hq hu => ?_)
        obtain ⟨x, hx, hxq⟩ := i2 i q hq
        exact h.rel x q u hxq (hr i x u hx hu)
    · exact h.rel x y u hx hu
  one := by
    intro x y hx
    unfold liftF at hx
    split at hx
    · obtain ⟨ys, hy, rfl⟩ := mapS hx
      rfl
    · exact h.one x y hx
theorem Moves.a (h : Moves φ c d) {x y : PV} {u : Value} (hx : liftA φ x = some y) (hu : RelV c x u) : RelV d y u := by
  unfold liftA at hx
  split at hx
  · obtain ⟨ys, hy, rfl⟩ := mapS hx
    obtain ⟨i1, i2⟩ := liftL_get hy
    cases hu with
    | agg cs us hl hr =>
      refine .agg _ us (i1.trans hl) (fun i q u hq hu => ?_)
      obtain ⟨x, hx, hxq⟩ := i2 i q hq
      exact h.f.rel x q u hxq (hr i x u hx hu)
  · exact h.f.rel x y u hx hu
theorem Moves.r (h : Moves φ c d) {x y : PV} {u : Value} (hx : liftR φ x = some y) (hu : RelV c x u) : RelV d y u := by
  unfold liftR at hx
  split at hx
  · obtain ⟨ys, hy, rfl⟩ := mapS hx
    obtain ⟨i1, i2⟩ := liftL_get hy
    cases hu with
    | tup cs us hl hr =>
      refine .tup _ us (i1.trans hl) (fun i q u hq hu => ?_)
      obtain ⟨x, hx, hxq⟩ := i2 i q hq
      exact h.a hxq (hr i x u hx hu)
  · exact h.a hx hu
/-- A block, as others name it. -/
theorem RelB.lift {foot foot' : Nat → Prop} {b b' : Id} {x y : Cont} (hM : Moves φ c d) (h : RelB c foot b x) (hy : liftC φ x = some y) (hat : d.at_ b' = c.at_ b) (hsz : d.sz b' = c.sz b) (hw : d.w = c.w) (hmu : ∀ k, ¬ c.mu k → ¬ d.mu k) (ho : ∀ g cap, c.at_ b = some (g, cap) → d.base ≤ g ∨ foot' g) : RelB d foot' b' y := by
  cases h with
  | none fl e sz hz h0 ha =>
    have : y = .rows fl e sz [] := by
      simp only [liftC, liftLL, Option.map_some] at hy
      split at hy
      · exact (Option.some.inj hy).symm
      · exact (Option.some.inj hy).symm
    subst this
    exact .none fl e sz (hsz.trans hz) h0 (hat.trans ha)
  | rows fl e sz rs g cap cur hz h0 ha ho' hh hn hm hs hl h1 hr =>
    simp only [liftC] at hy
    split at hy
    · rename_i hfl
      obtain rfl := Option.some.inj hy
      refine .rows fl e sz rs g cap cur (hsz.trans hz) h0 (hat.trans ha) (ho g cap ha) (by rw [hw]; exact hh) hn hm hs hl h1 (fun i row j x p q => ?_)
      obtain ⟨u, u1, u2⟩ := hr i row j x p q
      exact ⟨u, u1, u2.flat hw hmu (.inl ((h1 i row j x p q).2 hfl))⟩
    · rename_i hfl
      obtain ⟨rs', hrs, rfl⟩ := mapS hy
      obtain ⟨l1, l2⟩ := liftLL_get hrs
      refine .rows fl e sz rs' g cap cur (hsz.trans hz) h0 (hat.trans ha) (ho g cap ha) (by rw [hw]; exact hh) (by omega) hm ⟨hs.1, fun h => by rw [l1]; exact hs.2 h⟩ (fun i row hi => ?_) (fun i row j x p q => ?_) (fun i row j x p q => ?_)
      · obtain ⟨row0, r1, r2⟩ := l2 i row hi
        rw [(liftL_get r2).1]
        exact hl i row0 r1
      · obtain ⟨row0, r1, r2⟩ := l2 i row p
        obtain ⟨x0, x1, x2⟩ := (liftL_get r2).2 j x q
        exact ⟨hM.f.one x0 x x2, fun e => absurd e hfl⟩
      · obtain ⟨row0, r1, r2⟩ := l2 i row p
        obtain ⟨x0, x1, x2⟩ := (liftL_get r2).2 j x q
        obtain ⟨u, u1, u2⟩ := hr i row0 j x0 r1 x1
        exact ⟨u, u1, hM.f.rel x0 x u x2 u2⟩
  | iter s pos g cap ha ho' hh => simp [liftC] at hy
end
theorem in1_moves {c : Cx} {ids : List (Id × Nat)} (hids : ∀ (k : Nat) (p : Id × Nat), ids[k]? = some p → c.ver p.1 = p.2) : Moves (in1 ids) c (cx0 c ids) where
  rel := by
    intro x y u hp h
    unfold in1 at hp
    split at hp
    · rename_i b v i o
      obtain ⟨k, hk, rfl⟩ := mapS hp
      have hg := posOf_get hk
      have hv := hids k _ hg
      cases h with
      | ptr b v i o u h1 hv' h =>
        refine .ptr _ _ _ _ _ h1 (Nat.zero_le _) (fun _ => ?_)
        obtain ⟨g, cap, a1, a2⟩ := h hv.symm
        refine ⟨g, cap, ?_, ?_⟩
        · simp [cx0, hg, a1]
        · simp only [cx0, hg]; exact a2
    · rename_i b v n
      obtain ⟨k, hk, rfl⟩ := mapS hp
      have hg := posOf_get hk
      have hv := hids k _ hg
      cases h with
      | own b v n u h1 hv' h =>
        refine .own _ _ _ _ h1 (Nat.zero_le _) (fun _ => ?_)
        have ha : (cx0 c ids).at_ (.ext k) = c.at_ b := by simp [cx0, hg]
        rw [ha]
        exact h hv.symm
    · cases hp
      exact RelV.flat (c := c) (d := cx0 c ids) rfl (fun _ hm => hm) h (.inr ⟨_, _, rfl⟩)
    · split at hp
      · rename_i hs
        cases hp
        exact RelV.flat (c := c) (d := cx0 c ids) rfl (fun _ hm => hm) h (.inl hs)
      · cases hp
  one := by
    intro x y hp
    unfold in1 at hp
    split at hp
    · obtain ⟨k, hk, rfl⟩ := mapS hp; rfl
    · obtain ⟨k, hk, rfl⟩ := mapS hp; rfl
    · cases hp; rfl
    · split at hp
      · rename_i hs; cases hp; exact PV.one_of_sf hs
      · cases hp
theorem out1_moves {c d : Cx} {ids : List (Id × Nat)} {vs : List Nat} {m : Id → Blk} {dst n : Nat} (hw : d.w = c.w) (hmu : ∀ k, ¬ c.mu k → ¬ d.mu k) (hv : ∀ j, c.ver (.loc j 0) = 1) (hve : ∀ (k v : Nat), vs[k]? = some v → c.ver (.ext k) = v)
    (hat : ∀ j, j < n → d.at_ (.loc dst j) = c.at_ (.loc j 0) ∧ d.sz (.loc dst j) = c.sz (.loc j 0) ∧ d.ver (.loc dst j) = (m (.loc dst j)).ver + 1)
    (hae : ∀ (k : Nat) (p : Id × Nat) (v : Nat), ids[k]? = some p → vs[k]? = some v → d.at_ p.1 = c.at_ (.ext k) ∧ d.sz p.1 = c.sz (.ext k) ∧ d.ver p.1 = p.2 + v) : Moves (out1 ids vs m dst n) c d where
  rel := by
    intro x y u hp h
    unfold out1 at hp
    split at hp
    · rename_i k v i o
      obtain ⟨p, hk, hp⟩ := bindS hp
      split at hp
      · rename_i hvs
        cases hp
        obtain ⟨a1, a2, a3⟩ := hae k p v hk hvs
        cases h with
        | ptr b v i o u h1 hv' h =>
          refine .ptr _ _ _ _ _ h1 (by rw [a3]; exact Nat.le_refl _) (fun _ => ?_)
          rw [a1, a2]
          exact h (hve k v hvs).symm
      · cases hp
    · rename_i j v i o
      split at hp
      · rename_i hc
        cases hp
        obtain ⟨rfl, hj⟩ := hc
        obtain ⟨a1, a2, a3⟩ := hat j hj
        cases h with
        | ptr b v i o u h1 hv' h =>
          refine .ptr _ _ _ _ _ h1 (by rw [a3]; exact Nat.le_refl _) (fun _ => ?_)
          rw [a1, a2]
          exact h (hv j).symm
      · cases hp
    · rename_i k v q
      obtain ⟨p, hk, hp⟩ := bindS hp
      split at hp
      · rename_i hvs
        cases hp
        obtain ⟨a1, a2, a3⟩ := hae k p v hk hvs
        cases h with
        | own b v n u h1 hv' h =>
          refine .own _ _ _ _ h1 (by rw [a3]; exact Nat.le_refl _) (fun _ => ?_)
          rw [a1]
          exact h (hve k v hvs).symm
      · cases hp
    · rename_i j v q
      split at hp
      · rename_i hc
        cases hp
        obtain ⟨rfl, hj⟩ := hc
        obtain ⟨a1, a2, a3⟩ := hat j hj
        cases h with
        | own b v n u h1 hv' h =>
          refine .own _ _ _ _ h1 (by rw [a3]; exact Nat.le_refl _) (fun _ => ?_)
          rw [a1]
          exact h (hv j).symm
      · cases hp
    · cases hp
      exact RelV.flat (c := c) (d := d) hw hmu h (.inr ⟨_, _, rfl⟩)
    · split at hp
      · rename_i hs
        cases hp
        exact RelV.flat (c := c) (d := d) hw hmu h (.inl hs)
      · cases hp
  one := by
    intro x y hp
    unfold out1 at hp
    split at hp
    · obtain ⟨p, hk, hp⟩ := bindS hp
      split at hp
      · cases hp; rfl
      · cases hp
    · split at hp
      · cases hp; rfl
      · cases hp
    · obtain ⟨p, hk, hp⟩ := bindS hp
      split at hp
      · cases hp; rfl
      · cases hp
    · split at hp
      · cases hp; rfl
      · cases hp
    · cases hp; rfl
    · split at hp
      · rename_i hs; cases hp; exact PV.one_of_sf hs
      · cases hp
def posI : List (Id × Nat) → Id → Option Nat
  | [], _ => none
  | p :: l, b => if p.1 = b then some 0 else (posI l b).map (· + 1)
theorem posI_get : ∀ {ids : List (Id × Nat)} {b : Id} {k : Nat}, posI ids b = some k → ∃ p, ids[k]? = some p ∧ p.1 = b
  | p :: l, b, k, h => by
    unfold posI at h
    split at h
    · rename_i e
      cases h
      exact ⟨p, rfl, e⟩
    · obtain ⟨j, hj, rfl⟩ := mapS h
      obtain ⟨q, h1, h2⟩ := posI_get hj
      exact ⟨q, by simpa using h1, h2⟩
theorem posI_none : ∀ {ids : List (Id × Nat)} {b : Id}, posI ids b = none → b ∉ ids.map (·.1)
  | [], b, _ => by simp
  | p :: l, b, h => by
    unfold posI at h
    split at h
    · cases h
    · rename_i e
      have h' : posI l b = none := by
        cases hq : posI l b with
        | none => rfl
        | some q => rw [hq] at h; cases h
      have ih := posI_none h'
      simp only [List.map_cons, List.mem_cons, not_or]
      exact ⟨fun k => e k.symm, ih⟩
theorem posI_at {ids : List (Id × Nat)} (hn : (ids.map (·.1)).Nodup) {k : Nat} {p : Id × Nat} (h : ids[k]? = some p) : posI ids p.1 = some k := by
  cases hq : posI ids p.1 with
  | none => exact absurd (List.mem_map.2 ⟨p, List.mem_of_getElem? h, rfl⟩) (posI_none hq)
  | some j =>
    obtain ⟨q, h1, h2⟩ := posI_get hq
    have hj := (List.getElem?_eq_some_iff.1 h1).1
    have hk := (List.getElem?_eq_some_iff.1 h).1
    have e1 : ids[j] = q := (List.getElem?_eq_some_iff.1 h1).2
    have e2 : ids[k] = p := (List.getElem?_eq_some_iff.1 h).2
    have := nodup_inj hn (i := j) (j := k) (by simpa using hj) (by simpa using hk) (by simp [e1, e2, h2])
    rw [this]
section
variable {P : Program} {w0 : World} {foot omut : Nat → Prop} {σ : St} {c : Cx}
theorem callD_sound [Tbl P] (hT : keepsF (Tbl.T P) w0 foot) {a : Act} (R : Rel w0 foot omut σ a.tmps c) {o : Oper} (hd : ∀ d, o.dst = some d → d < a.tmps.size) {args : Array Operand} {ts : Array Nat} {f : Operand} (hop : o.op = .call { callee := .value f, args := args, argTypes := ts }) {g : Nat} {caps : List PV} (hf : σ.ev f = .fn g caps) {e : Eff}
    (h : CallD P σ (o.dst.getD 0) g (args.toList.map σ.ev ++ caps) e) : DidW P w0 foot omut σ c o a e := by
  obtain ⟨ids, args', bsC, bs, r, nb, bs', rO, nbO, bsO, hokf, hpass, hblC, hbl', hnd, hids, hbsC, hrO, hnbO, hbsO, hden, rfl⟩ := h
  intro next Q hn
  generalize hdst : o.dst.getD 0 = dst at *
  -- the arguments
  have hfv := hf ▸ R.ev (a := a) rfl f
  generalize hu : a.eval f = u at hfv
  cases hfv with
  | fn g caps cus hcl hcr =>
  let us := args.toList.map a.eval ++ cus
  have hrun : (execOp a.eval o).run P c.w = .ok (.enter g us.toArray) c.w := by
    unfold okF at hokf
    split at hokf
    · rename_i fn hfn
      simp only [Bool.and_eq_true] at hokf
      have hb : fn.body.isNone = false := by cases hq : fn.body <;> simp_all
      have hnm : (fn.name == "runtime.NumGoroutine") = false := by simpa [bne] using hokf.1
      have harr : Array.map a.eval args ++ cus.toArray = us.toArray := by
        apply Array.ext'
        simp [us]
      simp only [execOp, hop, resolve, hu, Deferred.ofValue, Sem.run_bind, Sem.run_pure, Result.andThen_ok, invoke, callFunc, program, Sem.run, hfn]
      simp only [hnm, hb, Bool.false_eq_true, if_false, Sem.run_pure, Array.empty_append, harr]
    · cases hokf
  have hargs : ∀ (i : Nat) (x : PV) (v : Value), (args.toList.map σ.ev ++ caps)[i]? = some x → us[i]? = some v → RelV c x v := by
    intro i x v hx hv
    by_cases hi : i < args.toList.length
    · rw [List.getElem?_append_left (by simpa using hi)] at hx
      rw [List.getElem?_append_left (by simpa using hi)] at hv
      rw [List.getElem?_map] at hx hv
      cases hq : args.toList[i]? with
      | none => rw [hq] at hx; cases hx
      | some q => rw [hq] at hx hv; cases hx; cases hv; exact R.ev rfl q
    · rw [List.getElem?_append_right (by simpa using hi)] at hx
      rw [List.getElem?_append_right (by simpa using hi)] at hv
      simp only [List.length_map] at hx hv
      exact hcr _ x v hx hv
  obtain ⟨hpl, hpg⟩ := liftL_get hpass
  obtain ⟨hbcl, hbcg⟩ := liftCs_get hbsC
  obtain ⟨hnol, hnog⟩ := liftCs_get hnbO
  obtain ⟨hbol, hbog⟩ := liftOs_get hbsO
  rw [List.length_map] at hbol
  have hbl : bs.length = ids.length := hbcl.trans hblC
  have hidv : ∀ (k : Nat) (p : Id × Nat), ids[k]? = some p → c.ver p.1 = p.2 := fun k p hk => (R.ver _).trans (hids k p hk).1
  have hlive : ∀ (k : Nat) (p : Id × Nat), ids[k]? = some p → ∃ x y, (σ.m p.1).live = some x ∧ bs[k]? = some y ∧ liftC (in1 ids) x = some y := by
    intro k p hk
    have hlt : k < bs.length := by rw [hbl]; exact (List.getElem?_eq_some_iff.1 hk).1
    obtain ⟨x, hx, hxy⟩ := hbcg k bs[k] (List.getElem?_eq_getElem hlt)
    exact ⟨x, bs[k], by rw [(hids k p hk).2.1]; exact hx, List.getElem?_eq_getElem hlt, hxy⟩
  -- where the callee begins
  let c0 := cx0 c ids
  let foot0 : Nat → Prop := fun k => ∃ (j : Nat) (p : Id × Nat) (cap : Nat), ids[j]? = some p ∧ c.at_ p.1 = some (k, cap)
  let omut0 : Nat → Prop := fun k => c.mu k ∧ ¬ foot0 k
  have hfmu : ∀ k, foot0 k → c.mu k := by
    rintro k ⟨j, p, cap, hj, ha⟩
    obtain ⟨x, y, hx, _⟩ := hlive j p hj
    exact (R.mt k).2 (.inr ⟨p.1, x, cap, hx, ha⟩)
  have hfb : ∀ k, foot0 k → k < c.w.heap.size ∧ (c.base ≤ k ∨ foot k) := by
    rintro k ⟨j, p, cap, hj, ha⟩
    obtain ⟨x, y, hx, _⟩ := hlive j p hj
    exact (R.mem p.1 x hx).lt ha
  have hmulive : ∀ k, c.mu k → k < c.w.heap.size := by
    intro k hk
    rcases (R.mt k).1 hk with ho | ⟨b, x, cap, h1, h2⟩
    · exact Nat.lt_of_lt_of_le (R.om k ho).1 R.bs
    · exact ((R.mem b x h1).lt h2).1
  have hc0 : Rel c.w foot0 omut0 (stM (m0 bs)) #[] c0 := by
    constructor
    · intro i; exact .dead _
    · intro b; cases b <;> rfl
    · intro b x hx
      cases b with
      | loc n j => simp [stM, m0] at hx
      | ext k =>
        have hx' : bs[k]? = some x := hx
        have hk : k < ids.length := by rw [← hbl]; exact (List.getElem?_eq_some_iff.1 hx').1
        obtain ⟨z, y, hz, hy', hzy⟩ := hlive k ids[k] (List.getElem?_eq_getElem hk)
        rw [hx'] at hy'
        cases hy'
        have hB := R.mem _ _ hz
        have hg : ids[k]? = some ids[k] := List.getElem?_eq_getElem hk
        exact hB.lift (in1_moves hidv) hzy (by simp [c0, cx0, hg]) (by simp [c0, cx0, hg]) rfl (fun _ hm => hm) (fun g' cap ha => .inr ⟨k, ids[k], cap, hg, ha⟩)
    · intro k
      constructor
      · intro hk
        by_cases hf0 : foot0 k
        · obtain ⟨j, p, cap, hj, ha⟩ := hf0
          obtain ⟨x, y, hx, hx', _⟩ := hlive j p hj
          exact .inr ⟨.ext j, y, cap, hx', by simp [c0, cx0, hj, ha]⟩
        · exact .inl ⟨hk, hf0⟩
      · rintro (⟨hk, _⟩ | ⟨b, x, cap, h1, h2⟩)
        · exact hk
        · cases b with
          | loc n j => simp [stM, m0] at h1
          | ext j =>
            have hx' : bs[j]? = some x := h1
            have hj : j < ids.length := by rw [← hbl]; exact (List.getElem?_eq_some_iff.1 hx').1
            have hg : ids[j]? = some ids[j] := List.getElem?_eq_getElem hj
            simp only [c0, cx0, hg, Option.bind_some] at h2
            exact hfmu k ⟨j, _, cap, hg, h2⟩
    · intro b b' x x' g' cap cap' h1 h2 h3 h4
      cases b with
      | loc n j => simp [stM, m0] at h1
      | ext j =>
        cases b' with
        | loc n j' => simp [stM, m0] at h2
        | ext j' =>
          have hx1 : bs[j]? = some x := h1
          have hx2 : bs[j']? = some x' := h2
          have hj : j < ids.length := by rw [← hbl]; exact (List.getElem?_eq_some_iff.1 hx1).1
          have hj' : j' < ids.length := by rw [← hbl]; exact (List.getElem?_eq_some_iff.1 hx2).1
          have hg : ids[j]? = some ids[j] := List.getElem?_eq_getElem hj
          have hg' : ids[j']? = some ids[j'] := List.getElem?_eq_getElem hj'
          simp only [c0, cx0, hg, hg', Option.bind_some] at h3 h4
          obtain ⟨y, _, hy, _⟩ := hlive j _ hg
          obtain ⟨y', _, hy', _⟩ := hlive j' _ hg'
          have he := R.inj _ _ y y' g' cap cap' hy hy' h3 h4
          have : j = j' := by
            have h5 : (ids.map (·.1))[j]'(by simpa using hj) = (ids.map (·.1))[j']'(by simpa using hj') := by simpa using he
            exact nodup_inj hnd (by simpa using hj) (by simpa using hj') h5
          rw [this]
    · rintro k ⟨hk, hf0⟩; exact ⟨hmulive k hk, hf0⟩
    · exact Fr.refl _ _ _
    · exact Nat.le_refl _
    · exact fun k hk => (hfb k hk).1
    · exact Nat.le_refl _
  have hT0 : keepsF (Tbl.T P) c.w foot0 := by
    intro w' hw'
    refine hT w' (fun k hk hf => ?_)
    have hk' : k < c.base := Nat.lt_of_lt_of_le hk R.bw
    rw [hw' k (Nat.lt_of_lt_of_le hk' R.bs) (fun h0 => by
      rcases (hfb k h0).2 with h1 | h1
      · omega
      · exact hf h1)]
    exact R.fr.block k hk' hf
  have hcall := hden us foot0 omut0 c0 hT0 rfl (by rw [hpl]; simp [us, hcl]) (fun i y v hy hv => by
    obtain ⟨x, hx, hxy⟩ := hpg i y hy
    exact (in1_moves hidv).a hxy (hargs i x v hx hv)) hc0
  unfold Oper.wp
  rw [hrun, Oper.upon_enter]
  refine Calls.mono hcall ?_
  rintro en w' ⟨u, d, rfl, hw, hbase, hle0, hru, hRd⟩
  subst hw
  have hbase' : d.base = c.w.heap.size := hbase
  show next (a.put o.dst u) d.w
  -- the memory behind the call
  let vs := bs'.map (·.1)
  have hvl : vs.length = ids.length := by simp [vs, hbl']
  let ef := effD σ.m dst ids vs rO nbO bsO
  let m' := (σ.app o.dst ef).m
  have hbs' : ∀ (k : Nat) (p : Id × Nat), ids[k]? = some p → ∃ (v : Nat) (x y : Option Cont), bs'[k]? = some (v, x) ∧ vs[k]? = some v ∧ bsO[k]? = some y ∧ ∀ z, y = some z → ∃ q, x = some q ∧ liftC (out1 ids vs σ.m dst nb.length) q = some z := by
    intro k p hk
    have hlt : k < bs'.length := by rw [hbl']; exact (List.getElem?_eq_some_iff.1 hk).1
    have hlt2 : k < bsO.length := by omega
    obtain ⟨x, hx, hxy⟩ := hbog k bsO[k] (List.getElem?_eq_getElem hlt2)
    rw [List.getElem?_map, List.getElem?_eq_getElem hlt] at hx
    have hx' := Option.some.inj hx
    refine ⟨bs'[k].1, x, bsO[k], by rw [List.getElem?_eq_getElem hlt, ← hx'], ?_, List.getElem?_eq_getElem hlt2, hxy⟩
    show (bs'.map (·.1))[k]? = _
    rw [List.getElem?_map, List.getElem?_eq_getElem hlt]
    rfl
  have hnb' : ∀ (j : Nat) (y : Cont), nbO[j]? = some y → ∃ x, nb[j]? = some x ∧ liftC (out1 ids vs σ.m dst nb.length) x = some y := hnog
  have hkeys : (ef.wr.map (·.1)) = ids.map (·.1) ++ (nbO.zipIdx.map fun p => Id.loc dst p.2) := by
    simp only [ef, effD, List.map_append, List.map_map]
    congr 1
    have : ∀ (l : List (Id × Nat)) (v : List Nat) (l' : List (Option Cont)), v.length = l.length → l'.length = l.length → List.map ((fun x : Id × Blk => x.1) ∘ fun p : ((Id × Nat) × Nat) × Option Cont => (p.1.1.1, (⟨p.1.1.2 + p.1.2, p.2⟩ : Blk))) ((l.zip v).zip l') = l.map (·.1) := by
      intro l
      induction l with
      | nil => intro v l' _ _; rfl
      | cons p l ih =>
        intro v l' hv hl
        cases v with
        | nil => simp at hv
        | cons x v =>
          cases l' with
          | nil => simp at hl
          | cons q l' => simp only [List.zip_cons_cons, List.map_cons, Function.comp]; rw [← ih v l' (by simpa using hv) (by simpa using hl)]
    exact this ids vs bsO hvl (by omega)
  have hlocs : ∀ (b : Id), b ∈ (nbO.zipIdx.map fun p => Id.loc dst p.2) → ∃ j, j < nbO.length ∧ b = .loc dst j := by
    intro b hb
    obtain ⟨p, hp, rfl⟩ := List.mem_map.1 hb
    obtain ⟨j, hj⟩ := List.mem_iff_getElem?.1 hp
    rw [List.getElem?_zipIdx] at hj
    cases hq : nbO[j]? with
    | none => rw [hq] at hj; cases hj
    | some q => rw [hq] at hj; cases hj; exact ⟨j, (List.getElem?_eq_some_iff.1 hq).1, by simp⟩
  have hidk : ∀ b, b ∈ ids.map (·.1) → ∃ (k : Nat) (p : Id × Nat), ids[k]? = some p ∧ p.1 = b := by
    intro b hb
    obtain ⟨p, hp, rfl⟩ := List.mem_map.1 hb
    obtain ⟨k, hk⟩ := List.mem_iff_getElem?.1 hp
    exact ⟨k, p, hk, rfl⟩
  have hnodup : (ef.wr.map (·.1)).Nodup := by
    rw [hkeys, List.nodup_append]
    refine ⟨hnd, ?_, ?_⟩
    · have : ∀ (l : List Cont) (k : Nat), ((l.zipIdx k).map fun p => Id.loc dst p.2).Nodup ∧ ∀ b ∈ ((l.zipIdx k).map fun p => Id.loc dst p.2), ∃ j, k ≤ j ∧ b = .loc dst j := by
        intro l
        induction l with
        | nil => intro k; exact ⟨List.nodup_nil, by simp⟩
        | cons x l ih =>
          intro k
          obtain ⟨i1, i2⟩ := ih (k + 1)
          simp only [List.zipIdx_cons, List.map_cons]
          refine ⟨List.nodup_cons.2 ⟨fun hm => ?_, i1⟩, fun b hb => ?_⟩
          · obtain ⟨j, hj, e⟩ := i2 _ hm
            injection e with _ e
            omega
          · rcases List.mem_cons.1 hb with e | hb
            · exact ⟨k, Nat.le_refl _, e⟩
            · obtain ⟨j, hj, e⟩ := i2 b hb
              exact ⟨j, by omega, e⟩
      exact (this nbO 0).1
    · intro b hb b' hb' e
      subst e
      obtain ⟨k, p, hk, rfl⟩ := hidk b hb
      obtain ⟨j, _, hj⟩ := hlocs _ hb'
      exact (hids k p hk).2.2 j hj
  have hm_id : ∀ (k : Nat) (p : Id × Nat) (v : Nat) (y : Option Cont), ids[k]? = some p → vs[k]? = some v → bsO[k]? = some y → m' p.1 = ⟨p.2 + v, y⟩ := by
    intro k p v y hk hv hy
    refine foldl_updm_mem ef.wr σ.m hnodup (List.mem_append.2 (.inl (List.mem_map.2 ⟨((p, v), y), ?_, rfl⟩)))
    refine List.mem_iff_getElem?.2 ⟨k, ?_⟩
    rw [List.getElem?_zip_eq_some]
    refine ⟨?_, hy⟩
    rw [List.getElem?_zip_eq_some]
    exact ⟨hk, hv⟩
  have hm_loc : ∀ (j : Nat) (y : Cont), nbO[j]? = some y → m' (.loc dst j) = ⟨(σ.m (.loc dst j)).ver + 1, some y⟩ := by
    intro j y hy
    refine foldl_updm_mem ef.wr σ.m hnodup (List.mem_append.2 (.inr (List.mem_map.2 ⟨(y, j), ?_, rfl⟩)))
    exact List.mem_iff_getElem?.2 ⟨j, by rw [List.getElem?_zipIdx, hy]; simp⟩
  have hm_other : ∀ b, b ∉ ids.map (·.1) → (∀ j, j < nbO.length → b ≠ .loc dst j) → m' b = σ.m b := by
    intro b h1 h2
    refine foldl_updm b ef.wr σ.m ?_
    rw [hkeys, List.mem_append]
    rintro (h | h)
    · exact h1 h
    · obtain ⟨j, hj, e⟩ := hlocs b h
      exact h2 j hj e
  have hcase : ∀ b, (∃ (k : Nat) (p : Id × Nat), ids[k]? = some p ∧ p.1 = b) ∨ (∃ (j : Nat) (y : Cont), nbO[j]? = some y ∧ b = .loc dst j) ∨ (b ∉ ids.map (·.1) ∧ ∀ j, j < nbO.length → b ≠ .loc dst j) := by
    intro b
    by_cases h1 : b ∈ ids.map (·.1)
    · exact .inl (hidk b h1)
    · by_cases h2 : ∃ j, j < nbO.length ∧ b = .loc dst j
      · obtain ⟨j, hj, e⟩ := h2
        exact .inr (.inl ⟨j, nbO[j], List.getElem?_eq_getElem hj, e⟩)
      · exact .inr (.inr ⟨h1, fun j hj e => h2 ⟨j, hj, e⟩⟩)
  let atf : Id → Option (Nat × Nat) := fun b => match posI ids b with
    | some k => d.at_ (.ext k)
    | none => match b with
      | .loc n j => if n = dst ∧ j < nbO.length then d.at_ (.loc j 0) else c.at_ (.loc n j)
      | .ext k => c.at_ (.ext k)
  let szf : Id → Nat := fun b => match posI ids b with
    | some k => d.sz (.ext k)
    | none => match b with
      | .loc n j => if n = dst ∧ j < nbO.length then d.sz (.loc j 0) else c.sz (.loc n j)
      | .ext k => c.sz (.ext k)
  let c' : Cx := { w := d.w, base := c.base, mu := fun k => omut k ∨ ∃ b x cap, (m' b).live = some x ∧ atf b = some (k, cap), at_ := atf, sz := szf, ver := fun b => (m' b).ver }
  have hnone : ∀ b, b ∉ ids.map (·.1) → posI ids b = none := by
    intro b hb
    cases hq : posI ids b with
    | none => rfl
    | some k =>
      obtain ⟨p, h1, h2⟩ := posI_get hq
      exact absurd (List.mem_map.2 ⟨p, List.mem_of_getElem? h1, h2⟩) hb
  have hat_loc : ∀ j, j < nbO.length → c'.at_ (.loc dst j) = d.at_ (.loc j 0) ∧ c'.sz (.loc dst j) = d.sz (.loc j 0) := by
    intro j hj
    have hp : posI ids (.loc dst j) = none := hnone _ (fun h => by obtain ⟨k, p, hk, e⟩ := hidk _ h; exact (hids k p hk).2.2 j e)
    exact ⟨by simp [c', atf, hp, hj], by simp [c', szf, hp, hj]⟩
  have hat_other : ∀ b, b ∉ ids.map (·.1) → (∀ j, j < nbO.length → b ≠ .loc dst j) → c'.at_ b = c.at_ b ∧ c'.sz b = c.sz b := by
    intro b h0 hb
    have hp := hnone b h0
    cases b with
    | ext k => exact ⟨by simp [c', atf, hp], by simp [c', szf, hp]⟩
    | loc n j =>
      have : ¬ (n = dst ∧ j < nbO.length) := by rintro ⟨rfl, hj⟩; exact hb j hj rfl
      exact ⟨by simp [c', atf, hp, this], by simp [c', szf, hp, this]⟩
  have hat_id : ∀ (k : Nat) (p : Id × Nat), ids[k]? = some p → c'.at_ p.1 = d.at_ (.ext k) ∧ c'.sz p.1 = d.sz (.ext k) := fun k p hk => ⟨by simp [c', atf, posI_at hnd hk], by simp [c', szf, posI_at hnd hk]⟩
  have hver_ext : ∀ (k : Nat) (v : Nat) (x : Option Cont), bs'[k]? = some (v, x) → d.ver (.ext k) = v := by
    intro k v x hk
    rw [hRd.ver (.ext k)]
    simp [stM, m1D, hk]
  have hext0 : ∀ (k : Nat) (p : Id × Nat) (x : Option Cont), ids[k]? = some p → bs'[k]? = some (0, x) → d.at_ (.ext k) = c.at_ p.1 ∧ d.sz (.ext k) = c.sz p.1 := by
    intro k p x hk hb
    have hv : c0.ver (.ext k) = d.ver (.ext k) := by rw [hver_ext k 0 x hb]; rfl
    obtain ⟨s1, s2⟩ := hle0.same (.ext k) hv
    exact ⟨s1.trans (by simp [c0, cx0, hk]), s2.trans (by simp [c0, cx0, hk])⟩
  have hbsB : ∀ (k v : Nat) (x : Cont), bs'[k]? = some (v, some x) → RelB d foot0 (.ext k) x := fun k v x hk => hRd.mem (.ext k) x (by simp [stM, m1D, hk])
  have hnbB : ∀ (j : Nat) (y : Cont), nb[j]? = some y → RelB d foot0 (.loc j 0) y := fun j y hy => hRd.mem (.loc j 0) y hy
  have hfoot_kept : ∀ k, k < c.w.heap.size → ¬ foot0 k → d.w.heap[k]? = c.w.heap[k]? := fun k hk hf0 => hRd.fr.block k (by rw [hbase']; exact hk) hf0
  have hid_live : ∀ (b : Id), b ∉ ids.map (·.1) → ∀ (x : Cont) (k cap : Nat), (σ.m b).live = some x → c.at_ b = some (k, cap) → ¬ foot0 k := by
    rintro b hb x k cap hx ha ⟨j, p, cap', hj, hp⟩
    obtain ⟨y, _, hy, _⟩ := hlive j p hj
    have := R.inj b p.1 x y k cap cap' hx hy ha hp
    exact hb (by rw [this]; exact List.mem_map.2 ⟨p, List.mem_of_getElem? hj, rfl⟩)
  have hnewlt : ∀ (b : Id) (x : Cont) (k cap : Nat), RelB d foot0 b x → d.at_ b = some (k, cap) → c.w.heap.size ≤ k ∨ foot0 k := by
    intro b x k cap hB ha
    rcases (hB.lt ha).2 with h | h
    · exact .inl (by rw [← hbase']; exact h)
    · exact .inr h
  have hmud : ∀ k, c'.mu k → d.mu k := by
    intro k hk
    refine (hRd.mt k).2 ?_
    rcases hk with ho | ⟨b, x, cap, h1, h2⟩
    · refine .inl ⟨(R.mt k).2 (.inl ho), fun hf0 => ?_⟩
      have h3 := R.om k ho
      rcases (hfb k hf0).2 with h | h
      · omega
      · exact h3.2 h
    · have h2' : c'.at_ b = some (k, cap) := h2
      rcases hcase b with ⟨j, p, hj, rfl⟩ | ⟨j, y, hj, rfl⟩ | ⟨hb1, hb2⟩
      · obtain ⟨v, z, y, q1, q2, q3, q4⟩ := hbs' j p hj
        rw [hm_id j p v y hj q2 q3] at h1
        obtain ⟨z', rfl, _⟩ := q4 x h1
        exact .inr ⟨.ext j, z', cap, by simp [stM, m1D, q1], by rw [← (hat_id j p hj).1]; exact h2'⟩
      · obtain ⟨z, hz, _⟩ := hnb' j y hj
        exact .inr ⟨.loc j 0, z, cap, hz, by rw [← (hat_loc j (List.getElem?_eq_some_iff.1 hj).1).1]; exact h2'⟩
      · rw [hm_other b hb1 hb2] at h1
        rw [(hat_other b hb1 hb2).1] at h2'
        exact .inl ⟨(R.mt k).2 (.inr ⟨b, x, cap, h1, h2'⟩), hid_live b hb1 x k cap h1 h2'⟩
  have hle : c.le c' := by
    refine ⟨rfl, hRd.fr.size, fun k hk hm => ⟨?_, ?_⟩, fun b => ?_, fun b hb => ?_⟩
    · rintro (ho | ⟨b, x, cap, h1, h2⟩)
      · exact hm ((R.mt k).2 (.inl ho))
      · have h2' : c'.at_ b = some (k, cap) := h2
        rcases hcase b with ⟨j, p, hj, rfl⟩ | ⟨j, y, hj, rfl⟩ | ⟨hb1, hb2⟩
        · obtain ⟨v, z, y, q1, q2, q3, q4⟩ := hbs' j p hj
          rw [hm_id j p v y hj q2 q3] at h1
          obtain ⟨z', rfl, _⟩ := q4 x h1
          rw [(hat_id j p hj).1] at h2'
          rcases hnewlt _ z' k cap (hbsB j v z' q1) h2' with h | h
          · omega
          · exact hm (hfmu k h)
        · obtain ⟨z, hz, _⟩ := hnb' j y hj
          rw [(hat_loc j (List.getElem?_eq_some_iff.1 hj).1).1] at h2'
          rcases hnewlt _ z k cap (hnbB j z hz) h2' with h | h
          · omega
          · exact hm (hfmu k h)
        · rw [hm_other b hb1 hb2] at h1
          rw [(hat_other b hb1 hb2).1] at h2'
          exact hm ((R.mt k).2 (.inr ⟨b, x, cap, h1, h2'⟩))
    · exact hfoot_kept k hk (fun hf0 => hm (hfmu k hf0))
    · show c.ver b ≤ (m' b).ver
      rw [R.ver b]
      rcases hcase b with ⟨j, p, hj, rfl⟩ | ⟨j, y, hj, rfl⟩ | ⟨hb1, hb2⟩
      · obtain ⟨v, z, y, q1, q2, q3, _⟩ := hbs' j p hj
        rw [hm_id j p v y hj q2 q3, (hids j p hj).1]
        exact Nat.le_add_right _ _
      · rw [hm_loc j y hj]; simp
      · rw [hm_other b hb1 hb2]; exact Nat.le_refl _
    · rcases hcase b with ⟨j, p, hj, rfl⟩ | ⟨j, y, hj, rfl⟩ | ⟨hb1, hb2⟩
      · obtain ⟨v, z, y, q1, q2, q3, _⟩ := hbs' j p hj
        have hb' : c.ver p.1 = (m' p.1).ver := hb
        rw [hm_id j p v y hj q2 q3, hidv j p hj] at hb'
        have hv0 : v = 0 := by simp only at hb'; omega
        subst hv0
        obtain ⟨s1, s2⟩ := hext0 j p z hj q1
        exact ⟨(hat_id j p hj).1.trans s1, (hat_id j p hj).2.trans s2⟩
      · exfalso
        have hb' : c.ver (.loc dst j) = (m' (.loc dst j)).ver := hb
        rw [hm_loc j y hj, R.ver] at hb'
        simp at hb'
      · exact hat_other b hb1 hb2
  have hM : Moves (out1 ids vs σ.m dst nb.length) d c' := by
    refine out1_moves rfl (fun k hk hk' => hk (hmud k hk')) (fun j => by rw [hRd.ver (.loc j 0)]; rfl) (fun k v hk => ?_) (fun j hj => ?_) (fun k p v hk hv => ?_)
    · have hk' : (bs'.map (·.1))[k]? = some v := hk
      rw [List.getElem?_map] at hk'
      cases hq : bs'[k]? with
      | none => rw [hq] at hk'; cases hk'
      | some q =>
        rw [hq] at hk'
        cases hk'
        exact hver_ext k q.1 q.2 hq
    · have hj' : j < nbO.length := by omega
      exact ⟨(hat_loc j hj').1, (hat_loc j hj').2, by show (m' (.loc dst j)).ver = _; rw [hm_loc j nbO[j] (List.getElem?_eq_getElem hj')]⟩
    · refine ⟨(hat_id k p hk).1, (hat_id k p hk).2, ?_⟩
      obtain ⟨v', z, y, q1, q2, q3, _⟩ := hbs' k p hk
      have : v' = v := Option.some.inj (q2.symm.trans hv)
      subst this
      show (m' p.1).ver = _
      rw [hm_id k p v' y hk q2 q3]
  have hBall : ∀ b x, (m' b).live = some x → RelB c' foot b x := by
    intro b x hx
    rcases hcase b with ⟨j, p, hj, rfl⟩ | ⟨j, y, hj, rfl⟩ | ⟨hb1, hb2⟩
    · obtain ⟨v, z, y, q1, q2, q3, q4⟩ := hbs' j p hj
      rw [hm_id j p v y hj q2 q3] at hx
      obtain ⟨z', rfl, q5⟩ := q4 x hx
      refine (hbsB j v z' q1).lift hM q5 (hat_id j p hj).1 (hat_id j p hj).2 rfl (fun k hk hk' => hk (hmud k hk')) (fun g' cap ha => ?_)
      rcases hnewlt _ z' g' cap (hbsB j v z' q1) ha with h | h
      · exact .inl (Nat.le_trans R.bs h)
      · exact (hfb g' h).2
    · rw [hm_loc j y hj] at hx
      cases hx
      obtain ⟨z, hz, hzy⟩ := hnb' j x hj
      have hjl := (List.getElem?_eq_some_iff.1 hj).1
      refine (hnbB j z hz).lift hM hzy (hat_loc j hjl).1 (hat_loc j hjl).2 rfl (fun k hk hk' => hk (hmud k hk')) (fun g' cap ha => ?_)
      rcases hnewlt _ z g' cap (hnbB j z hz) ha with h | h
      · exact .inl (Nat.le_trans R.bs h)
      · exact (hfb g' h).2
    · rw [hm_other b hb1 hb2] at hx
      refine (R.mem b x hx).le hle ?_ (fun g' cap ha => hfoot_kept g' ((R.mem b x hx).lt ha).1 (hid_live b hb1 x g' cap hx ha))
      show c.ver b = (m' b).ver
      rw [hm_other b hb1 hb2]; exact R.ver b
  have hinj : ∀ b b' x x' g' cap cap', (m' b).live = some x → (m' b').live = some x' → c'.at_ b = some (g', cap) → c'.at_ b' = some (g', cap') → b = b' := by
    intro b b' x x' g' cap cap' h1 h2 h3 h4
    -- each one is of the caller's own, or of the callee's
    have hone : ∀ (b : Id) (x : Cont) (cap : Nat), (m' b).live = some x → c'.at_ b = some (g', cap) → (∃ y, (σ.m b).live = some y ∧ c.at_ b = some (g', cap) ∧ b ∉ ids.map (·.1)) ∨ (∃ (i : Ev.Id) (y : Cont), ((stM (m1D bs' nb)).m i).live = some y ∧ d.at_ i = some (g', cap) ∧ ((∃ k p, i = .ext k ∧ ids[k]? = some p ∧ b = p.1) ∨ (∃ j, i = .loc j 0 ∧ b = .loc dst j))) := by
      intro b x cap h1 h3
      rcases hcase b with ⟨j, p, hj, rfl⟩ | ⟨j, y, hj, rfl⟩ | ⟨hb1, hb2⟩
      · obtain ⟨v, z, y, q1, q2, q3, q4⟩ := hbs' j p hj
        rw [hm_id j p v y hj q2 q3] at h1
        obtain ⟨z', rfl, _⟩ := q4 x h1
        exact .inr ⟨.ext j, z', by simp [stM, m1D, q1], by rw [← (hat_id j p hj).1]; exact h3, .inl ⟨j, p, rfl, hj, rfl⟩⟩
      · obtain ⟨z, hz, _⟩ := hnb' j y hj
        exact .inr ⟨.loc j 0, z, hz, by rw [← (hat_loc j (List.getElem?_eq_some_iff.1 hj).1).1]; exact h3, .inr ⟨j, rfl, rfl⟩⟩
      · exact .inl ⟨x, by rw [← hm_other b hb1 hb2]; exact h1, by rw [← (hat_other b hb1 hb2).1]; exact h3, hb1⟩
    have hmix : ∀ (b : Id) (y : Cont) (cap : Nat) (i : Id) (z : Cont) (cap' : Nat), (σ.m b).live = some y → c.at_ b = some (g', cap) → b ∉ ids.map (·.1) → ((stM (m1D bs' nb)).m i).live = some z → d.at_ i = some (g', cap') → False := by
      intro b y cap i z cap' p1 p2 p3 p4 p5
      have hlt := ((R.mem b y p1).lt p2).1
      rcases hnewlt i z g' cap' (hRd.mem i z p4) p5 with h | h
      · omega
      · exact hid_live b p3 y g' cap p1 p2 h
    rcases hone b x cap h1 h3 with ⟨y, a1, a2, a3⟩ | ⟨i, y, a1, a2, a3⟩
    · rcases hone b' x' cap' h2 h4 with ⟨y', b1, b2, b3⟩ | ⟨i', y', b1, b2, b3⟩
      · exact R.inj b b' y y' g' cap cap' a1 b1 a2 b2
      · exact (hmix b y cap i' y' cap' a1 a2 a3 b1 b2).elim
    · rcases hone b' x' cap' h2 h4 with ⟨y', b1, b2, b3⟩ | ⟨i', y', b1, b2, b3⟩
      · exact (hmix b' y' cap' i y cap b1 b2 b3 a1 a2).elim
      · have e := hRd.inj i i' y y' g' cap cap' a1 b1 a2 b2
        subst e
        rcases a3 with ⟨k, p, rfl, hk, rfl⟩ | ⟨j, rfl, rfl⟩
        · rcases b3 with ⟨k', p', e, hk', rfl⟩ | ⟨j, e, rfl⟩
          · injection e with e
            subst e
            rw [Option.some.inj (hk.symm.trans hk')]
          · cases e
        · rcases b3 with ⟨k', p', e, hk', rfl⟩ | ⟨j', e, rfl⟩
          · cases e
          · injection e with e
            subst e
            rfl
  have hRc : Rel w0 foot omut { σ with m := m' } a.tmps c' := by
    constructor
    · exact fun i => (R.tm i).le hle
    · exact fun b => rfl
    · exact hBall
    · exact fun k => Iff.rfl
    · exact hinj
    · exact R.om
    · refine R.fr.trans ⟨hRd.fr.os, hRd.fr.tape, hRd.fr.output, hRd.fr.size, fun k hk hfk => ?_⟩
      refine hfoot_kept k (Nat.lt_of_lt_of_le hk R.bs) (fun hf0 => ?_)
      rcases (hfb k hf0).2 with h | h
      · have h' : c.base ≤ k := h
        have hk' : k < c.base := hk
        omega
      · exact hfk h
    · exact Nat.le_trans R.bs hRd.fr.size
    · exact R.fb
    · exact R.bw
  have hval : RelV c' rO u := hM.r hrO hru
  refine hn (a.put o.dst u) c' rfl hle (Act.put_def _ _ _) (Act.put_size _ _ _) ?_
  rw [Act.put_tmps]
  cases hq : o.dst with
  | none =>
    have : ({ σ with m := m' } : St) = σ.app none ef := by
      simp only [m', hq, St.app]
    rw [← this]
    exact hRc
  | some q =>
    have : σ.app (some q) ef = { t := upd σ.t q rO, m := m' } := by
      simp only [m', hq, St.app]
      rfl
    rw [this]
    exact hRc.put q (hd q hq) _ u hval
end
/-! ### Calls that read own rows -/
def rdV (m : Id → Blk) : PV → PV
  | .own b v n => match look m b v with
    | some (.rows fl e sz rs) => if n ≤ rs.length ∧ (fl = true ∨ (rs.all fun r => r.all PV.sf) = true) then .ro (rs.take n) else .own b v n
    | _ => .own b v n
  | x => x
/-- What names no memory. -/
def noMem1 : PV → Bool
  | .int _ _ => true
  | .bool _ => true
  | .str _ => true
  | .nilp => true
  | .nils => true
  | .nili => true
  | .nilf => true
  | .ife => true
  | _ => false
def noMemA : PV → Bool
  | .agg cs => cs.all noMem1
  | x => noMem1 x
def noMem : PV → Bool
  | .tup vs => vs.all noMemA
  | x => noMemA x
theorem noMem1_rel {c d : Cx} {x : PV} {u : Value} (h : noMem1 x = true) (hr : RelV c x u) : RelV d x u := by
  cases hr <;> first | (simp [noMem1] at h; done) | constructor
theorem noMemA_rel {c d : Cx} {x : PV} {u : Value} (h : noMemA x = true) (hr : RelV c x u) : RelV d x u := by
  cases x with
  | agg cs =>
    cases hr with
    | agg cs us hl hr => exact .agg _ us hl (fun i y u hy hu => noMem1_rel (List.all_eq_true.1 h y (List.mem_of_getElem? hy)) (hr i y u hy hu))
  | _ => exact noMem1_rel h hr
theorem noMem_rel {c d : Cx} {x : PV} {u : Value} (h : noMem x = true) (hr : RelV c x u) : RelV d x u := by
  cases x with
  | tup cs =>
    cases hr with
    | tup cs us hl hr => exact .tup _ us hl (fun i y u hy hu => noMemA_rel (List.all_eq_true.1 h y (List.mem_of_getElem? hy)) (hr i y u hy hu))
  | _ => exact noMemA_rel h hr
/-- What is handed over plainly. -/
def plain1 (x : PV) : Bool := x.sf || (match x with | .rp _ _ => true | _ => false)
def plainG : PV → Bool
  | .agg cs => cs.all plain1
  | .fn _ caps => caps.all plain1
  | x => plain1 x
theorem plain1_rel {c d : Cx} (hw : d.w = c.w) (hmu : ∀ k, ¬ c.mu k → ¬ d.mu k) {x : PV} {u : Value} (h : plain1 x = true) (hr : RelV c x u) : RelV d x u := by
  refine RelV.flat hw hmu hr ?_
  unfold plain1 at h
  cases hs : x.sf with
  | true => exact .inl rfl
  | false =>
    rw [hs, Bool.false_or] at h
    cases x <;> first | (simp at h; done) | exact .inr ⟨_, _, rfl⟩
theorem plainG_rel {c d : Cx} (hw : d.w = c.w) (hmu : ∀ k, ¬ c.mu k → ¬ d.mu k) {x : PV} {u : Value} (h : plainG x = true) (hr : RelV c x u) : RelV d x u := by
  cases x with
  | agg cs =>
    cases hr with
    | agg cs us hl hr => exact .agg _ us hl (fun i y u hy hu => plain1_rel hw hmu (List.all_eq_true.1 h y (List.mem_of_getElem? hy)) (hr i y u hy hu))
  | fn f caps =>
    cases hr with
    | fn f caps us hl hr => exact .fn _ _ us hl (fun i y u hy hu => plain1_rel hw hmu (List.all_eq_true.1 h y (List.mem_of_getElem? hy)) (hr i y u hy hu))
  | _ => exact plain1_rel hw hmu h hr
def CallR (P : Program) [Tbl P] (σ : St) (f : Nat) (args : List PV) (e : Eff) : Prop :=
  ∃ r, okF P f = true ∧ ((args.map (rdV σ.m)).all plainG) = true ∧ noMem r = true ∧ Den P f (args.map (rdV σ.m)) [] r [] [] ∧ e = ⟨r, [], []⟩
section
variable {P : Program} {w0 : World} {foot omut : Nat → Prop} {σ : St} {c : Cx}
theorem callR_sound [Tbl P] (hT : keepsF (Tbl.T P) w0 foot) {a : Act} (R : Rel w0 foot omut σ a.tmps c) {o : Oper} (hd : ∀ d, o.dst = some d → d < a.tmps.size) {args : Array Operand} {ts : Array Nat} {f : Operand} (hop : o.op = .call { callee := .value f, args := args, argTypes := ts }) {g : Nat} {caps : List PV} (hf : σ.ev f = .fn g caps) {e : Eff}
    (h : CallR P σ g (args.toList.map σ.ev ++ caps) e) : DidW P w0 foot omut σ c o a e := by
  obtain ⟨r, hokf, hpl, hnm, hden, rfl⟩ := h
  intro next Q hn
  have hfv := hf ▸ R.ev (a := a) rfl f
  generalize hu : a.eval f = u at hfv
  cases hfv with
  | fn g caps cus hcl hcr =>
  let us := args.toList.map a.eval ++ cus
  have hrun : (execOp a.eval o).run P c.w = .ok (.enter g us.toArray) c.w := by
    unfold okF at hokf
    split at hokf
    · rename_i fn hfn
      simp only [Bool.and_eq_true] at hokf
      have hb : fn.body.isNone = false := by cases hq : fn.body <;> simp_all
      have hnm : (fn.name == "runtime.NumGoroutine") = false := by simpa [bne] using hokf.1
      have harr : Array.map a.eval args ++ cus.toArray = us.toArray := by
        apply Array.ext'
        simp [us]
      simp only [execOp, hop, resolve, hu, Deferred.ofValue, Sem.run_bind, Sem.run_pure, Result.andThen_ok, invoke, callFunc, program, Sem.run, hfn]
      simp only [hnm, hb, Bool.false_eq_true, if_false, Sem.run_pure, Array.empty_append, harr]
    · cases hokf
  have hargs : ∀ (i : Nat) (x : PV) (v : Value), (args.toList.map σ.ev ++ caps)[i]? = some x → us[i]? = some v → RelV c x v := by
    intro i x v hx hv
    by_cases hi : i < args.toList.length
    · rw [List.getElem?_append_left (by simpa using hi)] at hx
      rw [List.getElem?_append_left (by simpa using hi)] at hv
      rw [List.getElem?_map] at hx hv
      cases hq : args.toList[i]? with
      | none => rw [hq] at hx; cases hx
      | some q => rw [hq] at hx hv; cases hx; cases hv; exact R.ev rfl q
    · rw [List.getElem?_append_right (by simpa using hi)] at hx
      rw [List.getElem?_append_right (by simpa using hi)] at hv
      simp only [List.length_map] at hx hv
      exact hcr _ x v hx hv
  let d1 : Cx := { c with mu := fun _ => False }
  have hle1 : c.le d1 := ⟨rfl, Nat.le_refl _, fun _ _ _ => ⟨fun h => h, rfl⟩, fun _ => Nat.le_refl _, fun _ _ => ⟨rfl, rfl⟩⟩
  let c1 : Cx := ⟨c.w, c.w.heap.size, fun _ => False, fun _ => none, fun _ => 0, fun _ => 0⟩
  have hrd : ∀ (x : PV) (v : Value), RelV c x v → RelV d1 (rdV σ.m x) v := by
    intro x v hx
    unfold rdV
    split
    · rename_i b n0 n
      split
      · rename_i fl e sz rs hlk
        split
        · rename_i hc
          have hlk' : (σ.m b).ver = n0 ∧ (σ.m b).live = some (.rows fl e sz rs) := by
            unfold look at hlk
            split at hlk
            · rename_i hv; exact ⟨hv, hlk⟩
            · cases hlk
          have hv : c.ver b = n0 := (R.ver b).trans hlk'.1
          subst hv
          exact own_ro (R.mem b _ hlk'.2) hc.2 hx hc.1 hle1 (fun g cap _ => ⟨fun h => h, rfl⟩)
        · exact hx.le hle1
      · exact hx.le hle1
    · exact hx.le hle1
  have hno0 : ∀ (b : Ev.Id) (x : Cont), ((stM (m0 [])).m b).live = some x → False := by
    intro b x h
    cases b with
    | ext k => simp [stM, m0] at h
    | loc j k => simp [stM, m0] at h
  have hR1 : Rel c.w (fun _ => False) (fun _ => False) (stM (m0 [])) #[] c1 := by
    refine ⟨fun i => .dead _, fun b => by cases b <;> rfl, fun b x h => (hno0 b x h).elim, fun k => ⟨fun hk => hk.elim, fun hk => ?_⟩, fun b b' x x' g cap cap' h => (hno0 b x h).elim, fun k hk => hk.elim, Fr.refl _ _ _, Nat.le_refl _, fun k hk => hk.elim, Nat.le_refl _⟩
    rcases hk with h | ⟨b, x, cap, h, _⟩
    · exact h.elim
    · exact (hno0 b x h).elim
  have hT0 : keepsF (Tbl.T P) c.w (fun _ => False) := by
    intro w' hw'
    refine hT w' (fun k hk hf => ?_)
    have hk' : k < c.base := Nat.lt_of_lt_of_le hk R.bw
    rw [hw' k (Nat.lt_of_lt_of_le hk' R.bs) (fun h => h)]
    exact R.fr.block k hk' hf
  have hcall := hden us (fun _ => False) (fun _ => False) c1 hT0 rfl (by simp [us, hcl]) (fun i y v hy hv => by
    rw [List.getElem?_map] at hy
    cases hq : (args.toList.map σ.ev ++ caps)[i]? with
    | none => rw [hq] at hy; cases hy
    | some x =>
      rw [hq] at hy
      obtain rfl := Option.some.inj hy
      refine plainG_rel (c := d1) (d := c1) rfl (fun _ h => h) ?_ (hrd x v (hargs i x v hq hv))
      refine List.all_eq_true.1 hpl _ (List.mem_map_of_mem (List.mem_of_getElem? hq))) hR1
  unfold Oper.wp
  rw [hrun, Oper.upon_enter]
  refine Calls.mono hcall ?_
  rintro en w' ⟨u, d, rfl, hw, hbase, hle0, hru, hRd⟩
  subst hw
  have hkept : ∀ k, k < c.w.heap.size → d.w.heap[k]? = c.w.heap[k]? := fun k hk => hRd.fr.block k (by rw [show d.base = c.w.heap.size from hbase]; exact hk) (fun h => h)
  have hsz : c.w.heap.size ≤ d.w.heap.size := hRd.fr.size
  let c' : Cx := { c with w := d.w }
  have hle : c.le c' := ⟨rfl, hsz, fun k hk hm => ⟨hm, hkept k hk⟩, fun _ => Nat.le_refl _, fun _ _ => ⟨rfl, rfl⟩⟩
  have hRc : Rel w0 foot omut σ a.tmps c' := by
    constructor
    · exact fun i => (R.tm i).le hle
    · exact R.ver
    · exact fun b x hx => (R.mem b x hx).le hle rfl (fun g cap ha => hkept g ((R.mem b x hx).lt ha).1)
    · exact R.mt
    · exact R.inj
    · exact R.om
    · exact R.fr.trans ⟨hRd.fr.os, hRd.fr.tape, hRd.fr.output, hsz, fun k hk _ => hkept k (Nat.lt_of_lt_of_le hk R.bs)⟩
    · exact Nat.le_trans R.bs hsz
    · exact R.fb
    · exact R.bw
  have hval : RelV c' r u := noMem_rel hnm hru
  show next (a.put o.dst u) d.w
  refine hn (a.put o.dst u) c' rfl hle (Act.put_def _ _ _) (Act.put_size _ _ _) ?_
  rw [Act.put_tmps]
  cases hq : o.dst with
  | none => exact hRc
  | some q => exact hRc.put q (hd q hq) _ u hval
end
end Go.Proofs.Ev
namespace Go.Proofs.Ev
open Go Go.RowKit
set_option linter.unusedVariables false
set_option linter.unusedSimpArgs false
/-- A byte's cell. -/
def eB (b : UInt8) : List PV := [.int .u8 b.toNat]
section
variable {P : Program} {w0 : World} {foot omut : Nat → Prop} {σ : St} {tmps : Array Value} {c : Cx}
/-- A block is given up, and may change as it goes. -/
theorem Rel.kill (R : Rel w0 foot omut σ tmps c) (b : Id) (ver' : Nat) (w' : World) (hv : c.ver b ≤ ver') (hos : w'.os = c.w.os) (htape : w'.tape = c.w.tape) (hout : w'.output = c.w.output) (hsize : c.w.heap.size ≤ w'.heap.size)
    (hblk : ∀ k, k < c.w.heap.size → (∀ y cap, (σ.m b).live = some y → c.at_ b = some (k, cap) → False) → w'.heap[k]? = c.w.heap[k]?) :
    ∃ d : Cx, d.w = w' ∧ d.base = c.base ∧ c.le d ∧ Rel w0 foot omut { σ with m := updm σ.m b ⟨ver', none⟩ } tmps d := by
  let m' := updm σ.m b ⟨ver', none⟩
  let d : Cx := { w := w', base := c.base, mu := fun k => omut k ∨ ∃ b0 y cap, (m' b0).live = some y ∧ c.at_ b0 = some (k, cap), at_ := c.at_, sz := c.sz, ver := fun i => if i = b then ver' else c.ver i }
  have hmb : m' b = ⟨ver', none⟩ := by simp [m', updm]
  have hmo : ∀ i, i ≠ b → m' i = σ.m i := fun i hi => by simp [m', updm, hi]
  have hlv : ∀ i y, (m' i).live = some y → i ≠ b ∧ (σ.m i).live = some y := by
    intro i y h
    by_cases e : i = b
    · subst e; rw [hmb] at h; cases h
    · rw [hmo i e] at h; exact ⟨e, h⟩
  have hle : c.le d := by
    refine ⟨rfl, hsize, fun k hk hm => ⟨?_, ?_⟩, fun i => ?_, fun i hi => ⟨rfl, rfl⟩⟩
    · rintro (ho | ⟨b0, y, cap, h1, h2⟩)
      · exact hm ((R.mt k).2 (.inl ho))
      · exact hm ((R.mt k).2 (.inr ⟨b0, y, cap, (hlv _ _ h1).2, h2⟩))
    · exact hblk k hk (fun y cap h1 h2 => hm ((R.mt k).2 (.inr ⟨b, y, cap, h1, h2⟩)))
    · show c.ver i ≤ if i = b then ver' else c.ver i
      split
      · rename_i e; subst e; exact hv
      · exact Nat.le_refl _
  refine ⟨d, rfl, rfl, hle, ?_⟩
  constructor
  · exact fun i => (R.tm i).le hle
  · intro i
    show d.ver i = (m' i).ver
    by_cases e : i = b
    · subst e; rw [hmb]; simp [d]
    · rw [hmo i e, ← R.ver i]; simp [d, e]
  · intro b0 y h
    obtain ⟨e, h1⟩ := hlv b0 y h
    have h2 := R.mem b0 y h1
    refine h2.le hle (by simp [d, e]) (fun g cap hg => ?_)
    exact hblk g (h2.lt hg).1 (fun y' cap' h3 h4 => e (R.inj b0 b y y' g cap cap' h1 h3 hg h4))
  · exact fun k => Iff.rfl
  · intro b1 b2 x1 x2 g cap1 cap2 h1 h2 h3 h4
    exact R.inj b1 b2 x1 x2 g cap1 cap2 (hlv _ _ h1).2 (hlv _ _ h2).2 h3 h4
  · exact R.om
  · refine R.fr.trans ⟨hos, htape, hout, hsize, fun k hk hf => ?_⟩
    refine hblk k (Nat.lt_of_lt_of_le hk R.bs) (fun y cap h1 h2 => ?_)
    rcases ((R.mem b y h1).lt h2).2 with h | h
    · omega
    · exact hf h
  · exact Nat.le_trans R.bs hsize
  · exact R.fb
  · exact R.bw
theorem Did.kill (R : Rel w0 foot omut σ tmps c) {a : Act} (ha : a.tmps = tmps) {o : Oper} (hd : ∀ d, o.dst = some d → d < tmps.size) {v : PV} {lk : List Id} (b : Id) (ver' : Nat) (u : Value) (w' : World)
    (hr : (execOp a.eval o).run P c.w = .ok (.value u) w') (hv : c.ver b ≤ ver') (hos : w'.os = c.w.os) (htape : w'.tape = c.w.tape) (hout : w'.output = c.w.output) (hsize : c.w.heap.size ≤ w'.heap.size)
    (hblk : ∀ k, k < c.w.heap.size → (∀ y cap, (σ.m b).live = some y → c.at_ b = some (k, cap) → False) → w'.heap[k]? = c.w.heap[k]?) (hu : ∀ d : Cx, RelV d v u) : Did P w0 foot omut σ c o a ⟨v, lk, [(b, ⟨ver', none⟩)]⟩ := by
  obtain ⟨d, h1, h2, h3, h7⟩ := R.kill b ver' w' hv hos htape hout hsize hblk
  refine ⟨u, w', d, .inl hr, h1, h2, h3, ?_⟩
  rw [Act.put_tmps]
  cases h : o.dst with
  | none => simp only [St.app, List.foldl_cons, List.foldl_nil]; rw [ha]; exact h7
  | some q => simp only [St.app, List.foldl_cons, List.foldl_nil]; rw [ha]; exact h7.put q (hd q h) v u (hu d)
/-- A block of its own bytes: where it lies. -/
theorem bytes_at (R : Rel w0 foot omut σ tmps c) {b : Id} {v n : Nat} {u : Value} (h : RelV c (.own b v n) u) {fl : Bool} {e : Nat} {rs : List (List PV)} (hl : look σ.m b v = some (.rows fl e 1 rs)) {l : List UInt8} (hb : rs.take n = l.map eB) (hn : n ≤ rs.length) :
    l.length = n ∧ ((l = [] ∧ u = .slice none 0 0) ∨ ∃ g cap cur, c.at_ b = some (g, cap) ∧ n ≤ cap ∧ u = .slice (some ⟨g, 0, none⟩) n cap ∧ c.w.heap[g]? = some (.cells cur e (0, 0)) ∧ cap ≤ cur.size ∧ cap ≤ maxLen ∧ (∀ (j : Nat) (x : UInt8), l[j]? = some x → cur[j]? = some (.int .u8 x.toNat))) := by
  have hlen : l.length = n := by
    have := congrArg List.length hb
    rw [List.length_take, List.length_map, Nat.min_eq_left hn] at this
    exact this.symm
  refine ⟨hlen, ?_⟩
  obtain ⟨_, _, hc⟩ := own_at R h hl
  rcases hc with ⟨p1, p2, p3, p4⟩ | ⟨g, cap, cur, p1, p2, p3, p4, p5, p6, p7, p8, p9, p10, p11⟩
  · exact .inl ⟨List.eq_nil_of_length_eq_zero (by omega), p4⟩
  · refine .inr ⟨g, cap, cur, p1, p2, p3, p4, by have := p7; omega, p6, fun j x hx => ?_⟩
    have hj : j < l.length := (List.getElem?_eq_some_iff.1 hx).1
    have h1 : rs[j]? = some (eB x) := by
      have : (rs.take n)[j]? = some (eB x) := by rw [hb, List.getElem?_map, hx]; rfl
      rwa [List.getElem?_take, if_pos (by omega)] at this
    obtain ⟨u, u1, u2⟩ := p10 j (eB x) 0 _ h1 rfl
    cases u2
    simpa using u1
theorem did_sdata (R : Rel w0 foot omut σ tmps c) {a : Act} (ha : a.tmps = tmps) {o : Oper} (hd : ∀ d, o.dst = some d → d < tmps.size) {x : Operand} {ts : Array Nat} (hop : o.op = .call { callee := .builtin .unsafeSliceData, args := #[x], argTypes := ts }) {b : Id} {v n : Nat} (hx : σ.ev x = .own b v n) (h0 : 0 < n) {fl : Bool} {e sz : Nat} {rs : List (List PV)} (hl : look σ.m b v = some (.rows fl e sz rs)) (lk : List Id) :
    Did P w0 foot omut σ c o a ⟨.ptr b v 0 0, lk, []⟩ := by
  have hv := hx ▸ R.ev ha x
  obtain ⟨h1, h2⟩ := look_live hl
  obtain ⟨hsz, hs0, hc⟩ := own_at R hv hl
  rcases hc with ⟨p1, p2, p3, p4⟩ | ⟨g, cap, cur, p1, p2, p3, p4, p5, p6, p7, p8, p9, p10, p11⟩
  · omega
  · refine Did.val R ha hd (u := .pointer (some ⟨g, 0, none⟩)) (.ptr _ _ _ _ _ rfl (by rw [R.ver b]; omega) (fun _ => ⟨g, cap, p1, by simp⟩)) ?_
    simp [execOp, hop, resolve, invoke, p3, builtin, Lib.run_unsafeSliceData_row (P := P) c.w ts o.type ⟨g, 0, none⟩ n cap (by omega)]
theorem frz_other (w : World) (p : Addr) (n k : Nat) (h : k ≠ p.block) : (w.freeze p n).heap[k]? = w.heap[k]? := by
  unfold World.freeze
  split
  · rfl
  · simp [Array.getElem?_modify, Ne.symm h]
theorem frz_size (w : World) (p : Addr) (n : Nat) : (w.freeze p n).heap.size = w.heap.size := by
  unfold World.freeze
  split
  · rfl
  · simp
theorem frz_rest (w : World) (p : Addr) (n : Nat) : (w.freeze p n).os = w.os ∧ (w.freeze p n).tape = w.tape ∧ (w.freeze p n).output = w.output := by
  unfold World.freeze
  split
  · exact ⟨rfl, rfl, rfl⟩
  · exact ⟨rfl, rfl, rfl⟩
theorem did_ustr (R : Rel w0 foot omut σ tmps c) {a : Act} (ha : a.tmps = tmps) {o : Oper} (hd : ∀ d, o.dst = some d → d < tmps.size) {x y : Operand} {pt it : Nat} (hop : o.op = .call { callee := .builtin .unsafeString, args := #[x, y], argTypes := #[pt, it] }) {b : Id} {v : Nat} (hx : σ.ev x = .ptr b v 0 0) {l : List UInt8} {n : Nat} (hy : σ.ev y = .int .i64 n) {fl : Bool} {e : Nat} {rs : List (List PV)} (hl : look σ.m b v = some (.rows fl e 1 rs)) (hb : rs.take n = l.map eB) (hn : n ≤ rs.length) (h0 : 0 < n)
    (hp : P.underlying pt = some (.pointer e)) (hc : P.cellsOf e = 1) (lk : List Id) : Did P w0 foot omut σ c o a ⟨.str ⟨l.toArray⟩, lk, [(b, ⟨v + 1, none⟩)]⟩ := by
  have hv := hx ▸ R.ev ha x
  have hi := hy ▸ R.ev ha y
  obtain ⟨h1, h2⟩ := look_live hl
  obtain ⟨g, cap, cur, q1, q2, q3, q4, q5, q6, q7, q8, q9, q10, q11, q12⟩ := ptr_at R hv hl (by omega)
  have hlen : l.length = n := by
    have := congrArg List.length hb
    rw [List.length_take, List.length_map, Nat.min_eq_left hn] at this
    exact this.symm
  generalize hu : a.eval x = u at hv q3
  generalize hw : a.eval y = w at hi
  cases hi
  subst q3
  have hcur : cap ≤ cur.size := by have := q7.1; omega
  have hlc : l.length ≤ cur.size := by omega
  have h63 : l.length ≤ 9223372036854775807 := by have : maxLen = 9223372036854775807 := rfl; omega
  have hcell : ∀ (j : Nat) (x : UInt8), l[j]? = some x → c.w.cell? ((⟨g, 0, none⟩ : Addr).add j) = some (.int .u8 x.toNat) := by
    intro j z hz
    have hj : j < l.length := (List.getElem?_eq_some_iff.1 hz).1
    have h1 : rs[j]? = some (eB z) := by
      have : (rs.take n)[j]? = some (eB z) := by rw [hb, List.getElem?_map, hz]; rfl
      rwa [List.getElem?_take, if_pos (by omega)] at this
    obtain ⟨u, u1, u2⟩ := q11 j (eB z) 0 _ h1 rfl
    cases u2
    have e1 : (⟨g, 0, none⟩ : Addr).add j = ⟨g, j, none⟩ := by unfold Addr.add; simp; omega
    rw [e1, cell_block q4]
    simpa using u1
  have hrun := Lib.run_unsafeString_row c.w pt it o.type e hp hc g cur.size (by simp [World.shape?, q4]) l (by intro e; subst e; simp at hlen; omega) hlc h63 hcell
  rw [hlen] at hrun
  refine Did.kill R ha hd b (v + 1) (.string ⟨l.toArray⟩) (c.w.freeze ⟨g, 0, none⟩ n) ?_ (by rw [R.ver b]; omega) (frz_rest _ _ _).1 (frz_rest _ _ _).2.1 (frz_rest _ _ _).2.2 (by rw [frz_size]; exact Nat.le_refl _) (fun k hk hne => frz_other _ _ _ _ (fun e => hne _ cap h2 (by have e' : k = g := e; rw [q1, e']))) (fun d => .str _)
  have e0 : (0 * 1 + 0 : Nat) = 0 := rfl
  simp [execOp, hop, resolve, invoke, hu, hw, builtin, hrun]
theorem did_sdataN (R : Rel w0 foot omut σ tmps c) {a : Act} (ha : a.tmps = tmps) {o : Oper} (hd : ∀ d, o.dst = some d → d < tmps.size) {x : Operand} {ts : Array Nat} (hop : o.op = .call { callee := .builtin .unsafeSliceData, args := #[x], argTypes := ts }) (hx : σ.ev x = .nils) (lk : List Id) :
    Did P w0 foot omut σ c o a ⟨.nilp, lk, []⟩ := by
  have hv := hx ▸ R.ev ha x
  generalize hu : a.eval x = u at hv
  cases hv
  exact Did.val R ha hd .nilp (by simp [execOp, hop, resolve, invoke, hu, builtin, Lib.run_unsafeSliceData_nil (P := P) c.w ts o.type 0 0])
theorem did_ustrN (R : Rel w0 foot omut σ tmps c) {a : Act} (ha : a.tmps = tmps) {o : Oper} (hd : ∀ d, o.dst = some d → d < tmps.size) {x y : Operand} {pt it : Nat} (hop : o.op = .call { callee := .builtin .unsafeString, args := #[x, y], argTypes := #[pt, it] }) (hx : σ.ev x = .nilp) (hy : σ.ev y = .int .i64 0) (lk : List Id) :
    Did P w0 foot omut σ c o a ⟨.str ⟨#[]⟩, lk, []⟩ := by
  have hv := hx ▸ R.ev ha x
  have hi := hy ▸ R.ev ha y
  generalize hu : a.eval x = u at hv
  generalize hw : a.eval y = w at hi
  cases hv
  cases hi
  exact Did.val R ha hd (.str _) (by simp [execOp, hop, resolve, invoke, hu, hw, builtin, Lib.run_unsafeString_none (P := P) c.w pt it o.type none]; rfl)
theorem fold_push : ∀ (l : List UInt8) (s : ByteArray), (l.map fun b => (b.toNat : Int)).foldl (fun r n => r.push (UInt8.ofNat n.toNat)) s = ⟨s.data ++ l.toArray⟩
  | [], s => by simp
  | b :: l, s => by
    rw [List.map_cons, List.foldl_cons, fold_push l]
    simp [ByteArray.push]
/-- A row's bytes, loaded. -/
theorem run_bytes_of {w : World} {ad : Addr} {l : List UInt8} {n cap : Nat} (hn : l.length = n) (h : ∀ (j : Nat) (x : UInt8), l[j]? = some x → w.cell? (ad.add j) = some (.int .u8 x.toNat)) : (Conv.bytesToString (.slice (some ad) n cap)).run P w = .ok (.string ⟨l.toArray⟩) w := by
  have hl : (loadCells ad n).run P w = .ok ((l.map fun b => (b.toNat : Int)).map (Value.int .u8)).toArray w := by
    have := run_loadCells_list (P := P) (w := w) ad ((l.map fun b => (b.toNat : Int)).map (Value.int .u8)) (fun j u hu => ?_)
    · simpa [hn] using this
    simp only [List.map_map, List.getElem?_map] at hu
    cases hq : l[j]? with
    | none => rw [hq] at hu; cases hu
    | some z => rw [hq] at hu; cases hu; exact h j z hq
  rw [run_bytesToString w ad n cap _ hl, fold_push]
  simp
/-- Rows of bytes, wherever they lie. -/
theorem ro_bytes {u : Value} {l : List UInt8} (h : RelV c (.ro (l.map eB)) u) : (l = [] ∧ ∃ A cap, u = .slice A 0 cap) ∨ ∃ ad cap, u = .slice (some ad) l.length cap ∧ ∀ (j : Nat) (x : UInt8), l[j]? = some x → c.w.cell? (ad.add j) = some (.int .u8 x.toNat) := by
  generalize hv : PV.ro (l.map eB) = v at h
  cases h with
  | ro rows A cap sz f hn hA hz hb hf hc h =>
    injection hv with hv
    subst hv
    cases l with
    | nil => exact .inl ⟨rfl, A, cap, rfl⟩
    | cons b l =>
      cases A with
      | none => have := (hA rfl).1; simp at this
      | some ad =>
        refine .inr ⟨ad, cap, by simp, fun j x hx => ?_⟩
        have hr : ((b :: l).map eB)[j]? = some (eB x) := by rw [List.getElem?_map, hx]; rfl
        have h1 := hz j _ hr
        have hsz : sz = 1 := h1.symm
        subst hsz
        have hc1 := hc ad j _ 0 _ rfl hr rfl
        have hr1 := h j _ 0 _ hr rfl
        generalize f j 0 = q at hc1 hr1
        cases hr1
        have hs := (hb ad rfl (by simp)).1
        have e1 : ad.add j = ⟨ad.block, ad.off + (j * 1 + 0), none⟩ := by
          cases ad with
          | mk bb oo ss =>
            simp only at hs
            subst hs
            unfold Addr.add
            split
            · rename_i h0; subst h0; simp
            · simp
        rw [e1]
        exact hc1
  | _ => cases hv
theorem did_convRS (R : Rel w0 foot omut σ tmps c) {a : Act} (ha : a.tmps = tmps) {o : Oper} (hd : ∀ d, o.dst = some d → d < tmps.size) {s t e : Nat} {x : Operand} (hop : o.op = .convert s t x) {l : List UInt8} (hx : σ.ev x = .ro (l.map eB)) (hs : elP P s = some e) (he : intP P e = some .u8) (ht : strP P t = true) (lk : List Id) : Did P w0 foot omut σ c o a ⟨.str ⟨l.toArray⟩, lk, []⟩ := by
  have hv := hx ▸ R.ev ha x
  generalize hu : a.eval x = u at hv
  refine Did.val R ha hd (.str _) ?_
  rcases ro_bytes hv with ⟨rfl, A, cap, rfl⟩ | ⟨ad, cap, rfl, hc⟩
  · have : (Conv.bytesToString (.slice A 0 cap)).run P c.w = .ok (.string ⟨#[]⟩) c.w := by
      cases A with
      | none => rfl
      | some ad => exact run_bytes_of (l := []) rfl (by simp)
    simp [execOp, hop, hu, run_convert_bytes_string (P := P) c.w s t e A 0 cap (el_under hs) (int_under he) (str_under ht), this]
  · simp [execOp, hop, hu, run_convert_bytes_string (P := P) c.w s t e _ _ _ (el_under hs) (int_under he) (str_under ht), run_bytes_of (P := P) (cap := cap) rfl hc]
theorem did_convOS (R : Rel w0 foot omut σ tmps c) {a : Act} (ha : a.tmps = tmps) {o : Oper} (hd : ∀ d, o.dst = some d → d < tmps.size) {s t e : Nat} {x : Operand} (hop : o.op = .convert s t x) {l : List UInt8} {b : Id} {v n : Nat} (hx : σ.ev x = .own b v n) {fl : Bool} {e' : Nat} {rs : List (List PV)} (hl : look σ.m b v = some (.rows fl e' 1 rs)) (hb : rs.take n = l.map eB) (hn : n ≤ rs.length) (hs : elP P s = some e) (he : intP P e = some .u8) (ht : strP P t = true) (lk : List Id) : Did P w0 foot omut σ c o a ⟨.str ⟨l.toArray⟩, lk, []⟩ := by
  have hv := hx ▸ R.ev ha x
  generalize hu : a.eval x = u at hv
  refine Did.val R ha hd (.str _) ?_
  obtain ⟨hlen, h⟩ := bytes_at R hv hl hb hn
  rcases h with ⟨rfl, rfl⟩ | ⟨g, cap, cur, p1, p2, rfl, p4, p5, p6, p7⟩
  · have : (Conv.bytesToString (.slice none 0 0)).run P c.w = .ok (.string ⟨#[]⟩) c.w := rfl
    simp [execOp, hop, hu, run_convert_bytes_string (P := P) c.w s t e _ _ _ (el_under hs) (int_under he) (str_under ht), this]
  · have hc : ∀ (j : Nat) (x : UInt8), l[j]? = some x → c.w.cell? ((⟨g, 0, none⟩ : Addr).add j) = some (.int .u8 x.toNat) := by
      intro j z hz
      have e1 : (⟨g, 0, none⟩ : Addr).add j = ⟨g, j, none⟩ := by unfold Addr.add; simp; omega
      rw [e1, cell_block p4]
      exact p7 j z hz
    simp [execOp, hop, hu, run_convert_bytes_string (P := P) c.w s t e _ _ _ (el_under hs) (int_under he) (str_under ht), run_bytes_of (P := P) (cap := cap) hlen hc]
/-- The bounds of a full slice: high and max are one. -/
theorem run_bounds3 (isS : Bool) (len cap : Nat) (hlc : len ≤ cap) (lo : Option Value) (l h : Int) (k1 k2 : IntKind) (hl : match lo with | some v => ∃ k, v = .int k l | none => l = 0) (h0 : 0 ≤ l) (h1 : l ≤ h) (h2 : h ≤ len) (w : World) :
    (Instr.sliceBounds isS len cap lo (some (.int k1 h)) (some (.int k2 h))).run P w = .ok (l.toNat, h.toNat, h.toNat) w := by
  have e1 := run_bound (P := P) k2 h cap (if isS then .slice3Acap else .slice3Alen) (by omega) (by omega) w
  have e2 := run_bound (P := P) k1 h h.toNat .slice3B (by omega) (by omega) w
  cases lo with
  | none => simp only at hl; subst hl; simp [Instr.sliceBounds, e1, e2]
  | some v =>
    obtain ⟨k', rfl⟩ := hl
    have e3 := run_bound (P := P) k' l h.toNat .slice3C h0 (by omega) w
    simp [Instr.sliceBounds, e1, e2, e3]
theorem ro_part3 {d : Cx} {rows : List (List PV)} {u : Value} {e : Nat} (hr : RelV d (.ro rows) u) (l h : Nat) (hlh : l ≤ h) (hh : h ≤ rows.length) (hsz : ∀ row, rows.head? = some row → row.length = e) :
    ∃ A cap, u = .slice A rows.length cap ∧ rows.length ≤ cap ∧ RelV d (.ro ((rows.take h).drop l)) (.slice (if h = l then A else A.map (·.add (l * e))) (h - l) (h - l)) := by
  obtain ⟨A, cap, hu, hcap, hR⟩ := ro_part hr l h hlh hh hsz
  refine ⟨A, cap, hu, hcap, ?_⟩
  generalize hv : PV.ro ((rows.take h).drop l) = v at hR
  generalize hq : Value.slice (if cap = l then A else A.map (·.add (l * e))) (h - l) (cap - l) = q at hR
  have hlen : ((rows.take h).drop l).length = h - l := by rw [List.length_drop, List.length_take, Nat.min_eq_left hh]
  cases hR with
  | ro rows' A' cap' sz f hn hA hz hb hf hc hh' =>
    injection hv with hv
    subst hv
    injection hq with q1 q2 q3
    subst q3
    by_cases hlt : h = l
    · have he : (rows.take h).drop l = [] := List.eq_nil_of_length_eq_zero (by omega)
      rw [he, if_pos hlt, show h - l = 0 by omega]
      exact .ro [] A 0 1 (fun _ _ => .bool false) (Nat.le_refl _) (fun _ => ⟨rfl, rfl⟩) (by simp) (by simp) (by simp) (by simp) (by simp)
    · rw [if_neg (show ¬ cap = l by omega)] at q1
      rw [if_neg hlt, q1]
      have := RelV.ro (c := d) ((rows.take h).drop l) A' (h - l) sz f (by omega) (fun e => by have := (hA e).1; rw [this] at hlen; simp at hlen; omega) hz hb hf hc hh'
      rwa [hlen] at this
  | _ => cases hv
theorem did_slice3R (R : Rel w0 foot omut σ tmps c) {a : Act} (ha : a.tmps = tmps) {o : Oper} (hd : ∀ d, o.dst = some d → d < tmps.size) {t e : Nat} {x hi mx : Operand} {lo : Option Operand} (hop : o.op = .slice t x lo (some hi) (some mx)) {rows : List (List PV)} (hx : σ.ev x = .ro rows) (ht : elP P t = some e) (h0 : 0 < szP P e) (hrows : rowsOk (szP P e) (.ro rows) = true) {l h : Int}
    (hl : loP σ.ev lo = some l) (hh : intOfP (σ.ev hi) = some h) (hm : intOfP (σ.ev mx) = some h) (b0 : 0 ≤ l) (b1 : l ≤ h) (b2 : h ≤ rows.length) (lk : List Id) : Did P w0 foot omut σ c o a ⟨.ro ((rows.take h.toNat).drop l.toNat), lk, []⟩ := by
  have hv := hx ▸ R.ev ha x
  generalize hu : a.eval x = u at hv
  obtain ⟨e1, _⟩ := bound_args (hi := none) (h := none) R ha hl rfl
  obtain ⟨inf, hinf, hisz⟩ := size_info (P := P) (t := e) rfl h0
  obtain ⟨k1, hk1⟩ := int_of (R.ev ha hi) hh
  obtain ⟨k2, hk2⟩ := int_of (R.ev ha mx) hm
  have hall : ∀ row, rows.head? = some row → row.length = szP P e := by
    intro row hr
    have hm : row ∈ rows := List.mem_of_mem_head? hr
    have := List.all_eq_true.1 hrows row hm
    simpa using this
  have hu' := el_under ht
  obtain ⟨A, cap, rfl, hn, hr⟩ := ro_part3 hv l.toNat h.toNat (by omega) (by omega) hall
  have hrun := run_bounds3 (P := P) true rows.length cap hn (lo.map a.eval) l h k1 k2 e1 b0 b1 b2 c.w
  refine Did.val R ha hd hr ?_
  simp [execOp, hop, hu, hk1, hk2, Instr.sliceAt, Instr.slice, run_underlying hu', hrun, sizeOf, typeInfo, hinf, hisz]
theorem did_slice3N (R : Rel w0 foot omut σ tmps c) {a : Act} (ha : a.tmps = tmps) {o : Oper} (hd : ∀ d, o.dst = some d → d < tmps.size) {t e : Nat} {x hi mx : Operand} {lo : Option Operand} (hop : o.op = .slice t x lo (some hi) (some mx)) (hx : σ.ev x = .nils) (ht : elP P t = some e) (h0 : 0 < szP P e)
    (hl : loP σ.ev lo = some 0) (hh : intOfP (σ.ev hi) = some 0) (hm : intOfP (σ.ev mx) = some 0) (lk : List Id) : Did P w0 foot omut σ c o a ⟨.nils, lk, []⟩ := by
  have hv := hx ▸ R.ev ha x
  generalize hu : a.eval x = u at hv
  cases hv
  obtain ⟨e1, _⟩ := bound_args (hi := none) (h := none) R ha hl rfl
  obtain ⟨inf, hinf, hisz⟩ := size_info (P := P) (t := e) rfl h0
  obtain ⟨k1, hk1⟩ := int_of (R.ev ha hi) hh
  obtain ⟨k2, hk2⟩ := int_of (R.ev ha mx) hm
  have hu' := el_under ht
  have hrun := run_bounds3 (P := P) true 0 0 (Nat.le_refl _) (lo.map a.eval) 0 0 k1 k2 e1 (by omega) (by omega) (by omega) c.w
  refine Did.val R ha hd .nils ?_
  simp [execOp, hop, hu, hk1, hk2, Instr.sliceAt, Instr.slice, run_underlying hu', hrun, sizeOf, typeInfo, hinf, hisz]
/-- An own row, cut so that what is appended goes elsewhere. -/
theorem did_clip (R : Rel w0 foot omut σ tmps c) {a : Act} (ha : a.tmps = tmps) {o : Oper} (hd : ∀ d, o.dst = some d → d < tmps.size) {t e : Nat} {x hi mx : Operand} {lo : Option Operand} (hop : o.op = .slice t x lo (some hi) (some mx)) {b : Id} {v n : Nat} (hx : σ.ev x = .own b v n) (ht : elP P t = some e) (h0 : 0 < szP P e) {e' sz : Nat} {rs : List (List PV)} (hlk : look σ.m b v = some (.rows true e' sz rs)) {h : Nat}
    (hl : loP σ.ev lo = some 0) (hh : intOfP (σ.ev hi) = some (h : Int)) (hm : intOfP (σ.ev mx) = some (h : Int)) (b2 : h ≤ n) (lk : List Id) : Did P w0 foot omut σ c o a ⟨.own b (v + 1) h, lk, [(b, ⟨v + 1, some (.rows true e' sz (rs.take h))⟩)]⟩ := by
  have hv := hx ▸ R.ev ha x
  generalize hu : a.eval x = u at hv
  obtain ⟨e1, _⟩ := bound_args (hi := none) (h := none) R ha hl rfl
  obtain ⟨inf, hinf, hisz⟩ := size_info (P := P) (t := e) rfl h0
  obtain ⟨k1, hk1⟩ := int_of (R.ev ha hi) hh
  obtain ⟨k2, hk2⟩ := int_of (R.ev ha mx) hm
  have hu' := el_under ht
  obtain ⟨l1, l2⟩ := look_live hlk
  have hver := R.ver b
  obtain ⟨hsz, hs0, hc⟩ := own_at R hv hlk
  have hadd : ∀ (B : Option Addr), B.map (fun x => x.add 0) = B := by
    intro B
    cases B with
    | none => rfl
    | some ad => simp [Addr.add]
  rcases hc with ⟨p1, p2, p3, p4⟩ | ⟨g, cap, cur, p1, p2, p3, p4, p5, p6, p7, p8, p9, p10, p11⟩
  · have hh0 : h = 0 := by omega
    subst hh0 p3 p4
    have hrun := run_bounds3 (P := P) true 0 0 (Nat.le_refl _) (lo.map a.eval) 0 0 k1 k2 e1 (by omega) (by omega) (by omega) c.w
    refine Did.turn R ha hd b (v + 1) _ (.slice none 0 0) c.w none (c.sz b) (.inl ?_) (by omega) (by omega) rfl rfl rfl (Nat.le_refl _) (fun _ _ _ => rfl) (by simp) (fun d h1 h2 h3 h4 h5 h6 => ?_) (fun d h1 h2 h3 h4 h5 h6 => ?_)
    · simp [execOp, hop, hu, hk1, hk2, p2, Instr.sliceAt, Instr.slice, run_underlying hu', hrun, sizeOf, typeInfo, hinf, hisz]
    · exact .none true e' sz (h4.trans hsz) hs0 h3
    · exact .own _ _ _ _ rfl (by omega) (fun _ => .inl ⟨h3, rfl, rfl⟩)
  · subst p3
    have hrun := run_bounds3 (P := P) true n cap p2 (lo.map a.eval) 0 h k1 k2 e1 (by omega) (by omega) (by omega) c.w
    refine Did.turn R ha hd b (v + 1) _ (.slice (some ⟨g, 0, none⟩) h h) c.w (some (g, h)) (c.sz b) (.inl ?_) (by omega) (by omega) rfl rfl rfl (Nat.le_refl _) (fun _ _ _ => rfl) (fun g' cap' q => ?_) (fun d h1 h2 h3 h4 h5 h6 => ?_) (fun d h1 h2 h3 h4 h5 h6 => ?_)
    · simp [execOp, hop, hu, hk1, hk2, Instr.sliceAt, Instr.slice, run_underlying hu', hrun, sizeOf, typeInfo, hinf, hisz, hadd]
      first | done | (intro _; simp [Addr.add])
    · cases q
      exact .inr ⟨_, cap, l2, p1⟩
    · refine .rows true e' sz (rs.take h) g h cur (h4.trans hsz) hs0 h3 (by rw [h2]; exact p11) (by rw [h1]; exact p4) (by rw [List.length_take]; omega) (by omega) ⟨Nat.le_trans (Nat.mul_le_mul_right _ (by omega)) p7, fun q => by cases q⟩ (fun i row hi => ?_) (fun i row j y hi hy => ?_) (fun i row j y hi hy => ?_)
      · rw [List.getElem?_take] at hi
        split at hi
        · exact p8 i row hi
        · cases hi
      · rw [List.getElem?_take] at hi
        split at hi
        · exact p9 i row j y hi hy
        · cases hi
      · rw [List.getElem?_take] at hi
        split at hi
        · obtain ⟨u, u1, u2⟩ := p10 i row j y hi hy
          exact ⟨u, u1, u2.le h6⟩
        · cases hi
    · exact .own _ _ _ _ rfl (by omega) (fun _ => .inr ⟨g, h, h3, Nat.le_refl _, rfl⟩)
/-- The world goes on; nothing of ours turns. -/
theorem Rel.later (R : Rel w0 foot omut σ tmps c) (w' : World) (hos : w'.os = c.w.os) (htape : w'.tape = c.w.tape) (hout : w'.output = c.w.output) (hsize : c.w.heap.size ≤ w'.heap.size) (hblk : ∀ k, k < c.w.heap.size → w'.heap[k]? = c.w.heap[k]?) : c.le { c with w := w' } ∧ Rel w0 foot omut σ tmps { c with w := w' } := by
  have hle : c.le { c with w := w' } := ⟨rfl, hsize, fun k hk hm => ⟨hm, hblk k hk⟩, fun _ => Nat.le_refl _, fun _ _ => ⟨rfl, rfl⟩⟩
  refine ⟨hle, ?_⟩
  constructor
  · exact fun i => (R.tm i).le hle
  · exact R.ver
  · exact fun b x h => (R.mem b x h).le hle rfl (fun g cap hg => hblk g ((R.mem b x h).lt hg).1)
  · exact R.mt
  · exact R.inj
  · exact R.om
  · exact R.fr.trans ⟨hos, htape, hout, hsize, fun k hk _ => hblk k (Nat.lt_of_lt_of_le hk R.bs)⟩
  · exact Nat.le_trans R.bs hsize
  · exact R.fb
  · exact R.bw
theorem Did.later (R : Rel w0 foot omut σ tmps c) {a : Act} (ha : a.tmps = tmps) {o : Oper} (hd : ∀ d, o.dst = some d → d < tmps.size) {v : PV} {lk : List Id} (u : Value) (w' : World)
    (hr : (execOp a.eval o).run P c.w = .ok (.value u) w') (hos : w'.os = c.w.os) (htape : w'.tape = c.w.tape) (hout : w'.output = c.w.output) (hsize : c.w.heap.size ≤ w'.heap.size) (hblk : ∀ k, k < c.w.heap.size → w'.heap[k]? = c.w.heap[k]?)
    (hu : RelV { c with w := w' } v u) : Did P w0 foot omut σ c o a ⟨v, lk, []⟩ := by
  obtain ⟨h3, h7⟩ := R.later w' hos htape hout hsize hblk
  refine ⟨u, w', { c with w := w' }, .inl hr, rfl, rfl, h3, ?_⟩
  rw [Act.put_tmps]
  cases h : o.dst with
  | none => simp only [St.app, List.foldl_nil]; rw [ha]; exact h7
  | some q => simp only [St.app, List.foldl_nil]; rw [ha]; exact h7.put q (hd q h) v u hu
theorem did_convSR (R : Rel w0 foot omut σ tmps c) {a : Act} (ha : a.tmps = tmps) {o : Oper} (hd : ∀ d, o.dst = some d → d < tmps.size) {s t e : Nat} {x : Operand} (hop : o.op = .convert s t x) {y : ByteArray} (hx : σ.ev x = .str y) (hs : strP P s = true) (ht : elP P t = some e) (he : intP P e = some .u8) (hz : y.size ≤ 9223372036854775807) (lk : List Id) : Did P w0 foot omut σ c o a ⟨.ro (y.data.toList.map eB), lk, []⟩ := by
  have hv := hx ▸ R.ev ha x
  generalize hu : a.eval x = u at hv
  cases hv
  have hlt : ∀ j, j < c.w.heap.size → (Lib.bytesWorld c.w e y).heap[j]? = c.w.heap[j]? := fun j hj => Lib.bytesWorld_at_old c.w e y j hj
  have hfr : (Lib.bytesWorld c.w e y).os = c.w.os ∧ (Lib.bytesWorld c.w e y).tape = c.w.tape ∧ (Lib.bytesWorld c.w e y).output = c.w.output := by
    unfold Lib.bytesWorld
    obtain ⟨a1, a2, a3⟩ := frz_rest (c.w.drew.alloc (.cells (Lib.bytesCells c.w e y) e)) ⟨c.w.heap.size, (Lib.bytesCells c.w e y).size, none⟩ 1
    exact ⟨a1, a2, a3⟩
  have hlen : (y.data.toList.map eB).length = y.size := by rw [List.length_map]; rfl
  refine Did.later R ha hd (.slice (some ⟨c.w.heap.size, 0, none⟩) y.size (grownCap c.w y.size 0 e)) (Lib.bytesWorld c.w e y) ?_ hfr.1 hfr.2.1 hfr.2.2 (by rw [Lib.bytesWorld_size]; omega) hlt ?_
  · simp [execOp, hop, hu, Lib.run_convert_string_bytes (P := P) c.w s t e y (str_under hs) (el_under ht) (int_under he)]
  · have hR := RelV.ro (c := { c with w := Lib.bytesWorld c.w e y }) (y.data.toList.map eB) (some ⟨c.w.heap.size, 0, none⟩) (grownCap c.w y.size 0 e) 1 (fun i _ => .int .u8 (y.data.toList.getD i 0).toNat)
      (by rw [hlen]; have := grownCap_ge c.w y.size 0 e; omega) (fun h => by cases h) (fun i row hr => ?_) (fun ad h hne => ?_) (fun i row j x hr hx => ?_) (fun ad i row j x h hr hx => ?_) (fun i row j x hr hx => ?_)
    · rwa [hlen] at hR
    · rw [List.getElem?_map] at hr
      cases hq : y.data.toList[i]? with
      | none => rw [hq] at hr; cases hr
      | some z => rw [hq] at hr; cases hr; rfl
    · cases h
      refine ⟨rfl, fun hm => ?_, ?_⟩
      · rcases (R.mt _).1 hm with h | ⟨b, x, cap, h1, h2⟩
        · exact absurd (Nat.lt_of_lt_of_le (R.om _ h).1 R.bs) (Nat.lt_irrefl _)
        · exact absurd ((R.mem b x h1).lt h2).1 (Nat.lt_irrefl _)
      · show c.w.heap.size < (Lib.bytesWorld c.w e y).heap.size
        rw [Lib.bytesWorld_size]; omega
    · rw [List.getElem?_map] at hr
      cases hq : y.data.toList[i]? with
      | none => rw [hq] at hr; cases hr
      | some z =>
        rw [hq] at hr; cases hr
        match j, hx with
        | 0, hx => cases hx; rfl
    · cases h
      rw [List.getElem?_map] at hr
      cases hq : y.data.toList[i]? with
      | none => rw [hq] at hr; cases hr
      | some z =>
        rw [hq] at hr; cases hr
        match j, hx with
        | 0, hx =>
          have hi : i < y.size := (List.getElem?_eq_some_iff.1 hq).1
          have := Lib.bytesWorld_cell c.w e y i hi
          simpa using this
    · rw [List.getElem?_map] at hr
      cases hq : y.data.toList[i]? with
      | none => rw [hq] at hr; cases hr
      | some z =>
        rw [hq] at hr; cases hr
        match j, hx with
        | 0, hx =>
          cases hx
          have e1 : y.data.toList.getD i 0 = z := by rw [List.getD_eq_getElem?_getD, hq]; rfl
          rw [e1]
          exact .int _ _
theorem did_unxor (R : Rel w0 foot omut σ tmps c) {a : Act} (ha : a.tmps = tmps) {o : Oper} (hd : ∀ d, o.dst = some d → d < tmps.size) {t : Nat} {x : Operand} (hop : o.op = .unOp .xor t x) {k : IntKind} {n : Int} (hr : σ.ev x = .int k n) {r : PV} (hx : binI .xor k (if k.signed then -1 else k.max) n = some r) (lk : List Id) : Did P w0 foot omut σ c o a ⟨r, lk, []⟩ := by
  have h := hr ▸ R.ev ha x
  generalize hu : a.eval x = u at h
  cases h
  cases hx
  exact Did.val R ha hd (.int _ _) (by simp [execOp, hop, hu, Op.unary, Op.intBits])
/-- An element of an array that is a value. -/
theorem did_aidx (R : Rel w0 foot omut σ tmps c) {a : Act} (ha : a.tmps = tmps) {o : Oper} (hd : ∀ d, o.dst = some d → d < tmps.size) {t n e : Nat} {x ix : Operand} (hop : o.op = .index t x ix) (ht : P.underlying t = some (.array n e)) (he : aggP P e = false) (hk : knownP P e = true) (hz : szP P e = 1) {cs : List PV} (hx : σ.ev x = .agg cs) {i : Nat} (hi : intOfP (σ.ev ix) = some (i : Int)) (h1 : i < n) {y : PV} (hy : cs[i]? = some y) (lk : List Id) : Did P w0 foot omut σ c o a ⟨y, lk, []⟩ := by
  obtain ⟨k, hk'⟩ := int_of (R.ev ha ix) hi
  unfold knownP at hk
  rw [Bool.and_eq_true] at hk
  obtain ⟨inf, hinf⟩ := Option.isSome_iff_exists.1 hk.1
  obtain ⟨d, hdd⟩ := Option.isSome_iff_exists.1 hk.2
  have hs : inf.size = 1 := by unfold szP at hz; rw [hinf] at hz; exact hz
  have h := hx ▸ R.ev ha x
  generalize hu : a.eval x = u at h
  cases h with
  | agg cs us hl h =>
    have hi' : i < us.length := by rw [← hl]; exact (List.getElem?_eq_some_iff.1 hy).1
    refine Did.val R ha hd (h i y us[i] hy (by simp [hi'])) ?_
    simp [execOp, hop, hu, hk', Instr.index, asIntOf, run_underlying ht, h1, part, run_isAgg _ hdd, he, sizeOf, typeInfo, hinf, hs, hi']
/-- The address of an element of an array. -/
theorem did_aadr (R : Rel w0 foot omut σ tmps c) {a : Act} (ha : a.tmps = tmps) {o : Oper} (hd : ∀ d, o.dst = some d → d < tmps.size) {t n e : Nat} {x ix : Operand} (hop : o.op = .indexAddr t x ix) (ht : P.underlying t = some (.array n e)) (hz : 0 < szP P e) {b : Id} {v i q : Nat} (hx : σ.ev x = .ptr b v i q) {fl : Bool} {e' sz : Nat} {rs : List (List PV)} (hl : look σ.m b v = some (.rows fl e' sz rs)) (hi : i < rs.length) {j : Nat} (hj : intOfP (σ.ev ix) = some (j : Int)) (h1 : j < n) (lk : List Id) : Did P w0 foot omut σ c o a ⟨.ptr b v i (q + j * szP P e), lk, []⟩ := by
  obtain ⟨k, hk'⟩ := int_of (R.ev ha ix) hj
  have h := hx ▸ R.ev ha x
  obtain ⟨g, cap, cur, g1, g2, g3, _⟩ := ptr_at R h hl hi
  obtain ⟨inf, hinf, hsz⟩ := size_info (P := P) (t := e) rfl hz
  have hl1 := (look_live hl).1
  refine Did.val R ha hd (u := .pointer (some ⟨g, i * sz + (q + j * szP P e), none⟩)) (.ptr _ _ _ _ _ rfl (by rw [R.ver b]; omega) (fun _ => ⟨g, cap, g1, by rw [g2]⟩)) ?_
  have hadd : (⟨g, i * sz + q, none⟩ : Addr).add (j * szP P e) = ⟨g, i * sz + (q + j * szP P e), none⟩ := by
    unfold Addr.add
    split
    · rename_i h0; rw [h0]; rfl
    · simp; omega
  simp [execOp, hop, Instr.indexAt, run_underlying ht, g3, hk', asIntOf, Instr.sureAddr, sizeOf, typeInfo, hinf, hsz, h1, hadd]
theorem run_peq {u v : Value} {t : Nat} {op : BinOp} {b : Bool} {r : PV} (hr : eqB op b = some r) (X Y : Operand) (w : World) (hp : (∃ p, u = .pointer p) ∧ ∃ q, v = .pointer q) (heq : (Op.equal t u v).run P w = .ok b w) : ∃ z, (do eqGuard op t X Y u v; binOp op t u v : Sem Value).run P w = .ok z w ∧ ∀ d, RelV d r z := by
  obtain ⟨⟨p, rfl⟩, ⟨q, rfl⟩⟩ := hp
  unfold eqB at hr
  split at hr
  · cases hr
    refine ⟨.bool b, ?_, fun d => .bool _⟩
    simp only [eqGuard, binOp, Sem.run_bind, Sem.run_pure, Result.andThen_ok, heq, Bool.not_true, Bool.false_eq_true, if_false]
  · cases hr
    refine ⟨.bool (!b), ?_, fun d => .bool _⟩
    simp only [eqGuard, binOp, Sem.run_bind, Sem.run_pure, Result.andThen_ok, heq, Bool.not_true, Bool.false_eq_true, if_false]
  · cases hr
theorem pointee_of {t te : Nat} (h : P.underlying t = some (.pointer te)) : P.underlying t = some (.pointer (P.pointee t)) := by
  unfold Program.pointee
  rw [h]
theorem did_peq (R : Rel w0 foot omut σ tmps c) {a : Act} (ha : a.tmps = tmps) {o : Oper} (hd : ∀ d, o.dst = some d → d < tmps.size) {op : BinOp} {t te q : Nat} {x y : Operand} (hop : o.op = .binOp op t x y q) (ht : P.underlying t = some (.pointer te)) {s : Bool} {r : PV} (hr : eqB op s = some r) (hy : σ.ev y = .nilp)
    (hx : (s = true ∧ σ.ev x = .nilp) ∨ (s = false ∧ ∃ b v i f, σ.ev x = .ptr b v i f ∧ ∃ fl e sz rs, look σ.m b v = some (.rows fl e sz rs) ∧ i < rs.length)) (lk : List Id) : Did P w0 foot omut σ c o a ⟨r, lk, []⟩ := by
  have h2 := hy ▸ R.ev ha y
  generalize hv : a.eval y = v at h2
  cases h2
  have h1 : ∃ p : Option Addr, a.eval x = .pointer p ∧ p.isNone = s := by
    rcases hx with ⟨rfl, hx⟩ | ⟨rfl, b, v, i, f, hx, fl, e, sz, rs, hl, hi⟩
    · have h1 := hx ▸ R.ev ha x
      generalize a.eval x = u at h1
      cases h1
      exact ⟨none, rfl, rfl⟩
    · obtain ⟨g, cap, cur, g1, g2, g3, _⟩ := ptr_at R (hx ▸ R.ev ha x) hl hi
      exact ⟨_, g3, rfl⟩
  obtain ⟨p, hp, hs⟩ := h1
  obtain ⟨z, hz, hzr⟩ := run_peq (P := P) hr x y c.w ⟨⟨p, rfl⟩, ⟨none, rfl⟩⟩ (hs ▸ run_equal_pointer_nil (P := P) c.w t p (pointee_of ht))
  exact Did.val R ha hd (hzr c) (by
    have : (execOp a.eval o).run P c.w = ((do eqGuard op t x y (.pointer p) (.pointer none); binOp op t (.pointer p) (.pointer none) : Sem Value).run P c.w).andThen fun z w' => .ok (.value z) w' := by
      simp only [execOp, hop, hp, hv, Sem.run_bind, Sem.run_pure]
    rw [this, hz]; rfl)
/-- A pointer and itself. -/
theorem did_psame (R : Rel w0 foot omut σ tmps c) {a : Act} (ha : a.tmps = tmps) {o : Oper} (hd : ∀ d, o.dst = some d → d < tmps.size) {op : BinOp} {t te q : Nat} {x y : Operand} (hop : o.op = .binOp op t x y q) (ht : P.underlying t = some (.pointer te)) (hte : 0 < szP P te) {r : PV} (hr : eqB op true = some r) {b : Id} {v i f : Nat} (hx : σ.ev x = .ptr b v i f) (hy : σ.ev y = .ptr b v i f) {fl : Bool} {e sz : Nat} {rs : List (List PV)} (hl : look σ.m b v = some (.rows fl e sz rs)) (hi : i < rs.length) (lk : List Id) : Did P w0 foot omut σ c o a ⟨r, lk, []⟩ := by
  obtain ⟨g, cap, cur, g1, g2, g3, _⟩ := ptr_at R (hx ▸ R.ev ha x) hl hi
  obtain ⟨g', cap', cur', g1', g2', g3', _⟩ := ptr_at R (hy ▸ R.ev ha y) hl hi
  rw [g1] at g1'
  cases g1'
  obtain ⟨inf, hinf, hsz⟩ := size_info (P := P) (t := te) rfl hte
  have heq : (Op.equal t (.pointer (some ⟨g, i * sz + f, none⟩)) (.pointer (some ⟨g, i * sz + f, none⟩))).run P c.w = .ok true c.w := by
    have key : ∀ d : Nat, (Op.equalIn (d + 1) t (.pointer (some ⟨g, i * sz + f, none⟩)) (.pointer (some ⟨g, i * sz + f, none⟩))).run P c.w = .ok true c.w := fun d => by
      have hn : inf.size ≠ 0 := by omega
      simp [Op.equalIn, run_underlying ht, sizeOf, typeInfo, hinf, hn, run_sameAddr_same]
    exact key 9999
  obtain ⟨z, hz, hzr⟩ := run_peq (P := P) hr x y c.w ⟨⟨_, rfl⟩, ⟨_, rfl⟩⟩ heq
  exact Did.val R ha hd (hzr c) (by
    have : (execOp a.eval o).run P c.w = ((do eqGuard op t x y (.pointer (some ⟨g, i * sz + f, none⟩)) (.pointer (some ⟨g, i * sz + f, none⟩)); binOp op t (.pointer (some ⟨g, i * sz + f, none⟩)) (.pointer (some ⟨g, i * sz + f, none⟩)) : Sem Value).run P c.w).andThen fun z w' => .ok (.value z) w' := by
      simp only [execOp, hop, g3, g3', Sem.run_bind, Sem.run_pure]
    rw [this, hz]; rfl)
/-- So many noughts behind a row that is nil: what they are isn't told. -/
theorem did_appZ (R : Rel w0 foot omut σ tmps c) {a : Act} (ha : a.tmps = tmps) {o : Oper} (hd : ∀ d, o.dst = some d → d < tmps.size) {x y : Operand} {t tn e : Nat} {kn : IntKind} (hop : o.op = .call { callee := .builtin .append, args := #[x, y], argTypes := #[t, tn] }) (ht : elP P t = some e) (htn : intP P tn = some kn) {zs : List Value} (hz : zeroP P e = some zs) (hzl : zs.length = szP P e) (h0 : 0 < szP P e)
    (hx : σ.ev x = .nils) {k : IntKind} {n : Nat} (hy : σ.ev y = .int k n) (hn : 0 < n) (h63 : n ≤ 9223372036854775807) (hby : n * byP P e ≤ 140737488355328) (b : Id) (lk : List Id) : Did P w0 foot omut σ c o a ⟨.own b ((σ.m b).ver + 1) n, lk, [(b, ⟨(σ.m b).ver + 1, some (.rows true e (szP P e) [])⟩)]⟩ := by
  have hv := hx ▸ R.ev ha x
  have hi := hy ▸ R.ev ha y
  generalize hu : a.eval x = u at hv
  generalize hw : a.eval y = w at hi
  cases hv
  cases hi
  obtain ⟨i, z, hi, hz', hzc⟩ := zero_info hz
  have hs : szP P e = i.size := by unfold szP; rw [hi]; rfl
  have hb : byP P e = i.bytes := by unfold byP; rw [hi]; rfl
  rw [hb] at hby
  have hrun := Lib.run_append_nil_zeros (P := P) c.w t tn o.type e i z k kn (el_under ht) (int_under htn) hi hz' n hn (by omega) (by omega) (by omega)
  have hge := grownCap_ge c.w n 0 e
  have hcm := grownCap_le_maxLen c.w n 0 e (by show n ≤ 9223372036854775807; omega)
  have hzs : z.cells.size = i.size := by rw [← hs, ← hzl, ← hzc]; simp
  refine Did.turn R ha hd b _ _ (.slice (some ⟨c.w.heap.size, 0, none⟩) n (grownCap c.w n 0 e)) (c.w.drew.alloc (.cells (Builtin.zeroCells z.cells n ++ Builtin.zeroCells z.cells (grownCap c.w n 0 e - n)) e)) (some (c.w.heap.size, grownCap c.w n 0 e)) (szP P e) (.inl ?_) (by rw [R.ver b]; omega) (fun q => by rw [R.ver b] at q; omega) rfl rfl rfl (by simp) (fun j hj _ => heap_alloc_old c.w.drew _ j hj) (fun g cap q => by cases q; exact .inl (Nat.le_refl _)) (fun d h1 h2 h3 h4 h5 h6 => ?_) (fun d h1 h2 h3 h4 h5 h6 => ?_)
  · simp [execOp, hop, resolve, invoke, hu, hw, builtin, hrun]
  · refine .rows true e _ [] c.w.heap.size (grownCap c.w n 0 e) (Builtin.zeroCells z.cells n ++ Builtin.zeroCells z.cells (grownCap c.w n 0 e - n)) h4 h0 h3 (.inl (by rw [h2]; exact R.bs)) (by rw [h1]; exact heap_alloc_new c.w.drew _) (Nat.zero_le _) hcm ⟨?_, fun q => by cases q⟩ (by simp) (by simp) (by simp)
    simp only [Array.size_append, size_zeroCells, hzs, ← Nat.add_mul, hs]
    exact Nat.le_of_eq (by congr 1; omega)
  · exact .own _ _ _ _ rfl (by rw [h5]; exact Nat.le_refl _) (fun _ => .inr ⟨c.w.heap.size, _, h3, hge, rfl⟩)
theorem did_ieq (R : Rel w0 foot omut σ tmps c) {a : Act} (ha : a.tmps = tmps) {o : Oper} (hd : ∀ d, o.dst = some d → d < tmps.size) {op : BinOp} {t q : Nat} {ms : Array (String × TypeId)} {x : Operand} (hop : o.op = .binOp op t x (.const .nilIface) q) (ht : P.underlying t = some (.interface ms)) {s : Bool} {r : PV} (hr : eqB op s = some r)
    (hx : (s = true ∧ σ.ev x = .nili) ∨ (s = false ∧ σ.ev x = .ife)) (lk : List Id) : Did P w0 foot omut σ c o a ⟨r, lk, []⟩ := by
  have h1 : ∃ u, a.eval x = u ∧ (Op.equal t u .nilIface).run P c.w = .ok s c.w := by
    rcases hx with ⟨rfl, hx⟩ | ⟨rfl, hx⟩
    · have h1 := hx ▸ R.ev ha x
      generalize a.eval x = u at h1
      cases h1
      refine ⟨_, rfl, ?_⟩
      have key : ∀ d : Nat, (Op.equalIn (d + 1) t .nilIface .nilIface).run P c.w = .ok true c.w := fun d => by simp [Op.equalIn, run_underlying ht]
      exact key 9999
    · have h1 := hx ▸ R.ev ha x
      generalize a.eval x = u at h1
      cases h1
      refine ⟨_, rfl, ?_⟩
      rename_i tt u
      have key : ∀ d : Nat, (Op.equalIn (d + 1) t (.iface tt u) .nilIface).run P c.w = .ok false c.w := fun d => by simp [Op.equalIn, run_underlying ht]
      exact key 9999
  obtain ⟨u, hu, heq⟩ := h1
  have hrun : ∃ z, (do eqGuard op t x (.const .nilIface) u .nilIface; binOp op t u .nilIface : Sem Value).run P c.w = .ok z c.w ∧ ∀ d, RelV d r z := by
    unfold eqB at hr
    split at hr
    · cases hr
      refine ⟨.bool s, ?_, fun d => .bool _⟩
      cases u <;> simp [eqGuard, binOp, heq]
    · cases hr
      refine ⟨.bool (!s), ?_, fun d => .bool _⟩
      cases u <;> simp [eqGuard, binOp, heq]
    · cases hr
  obtain ⟨z, hz, hzr⟩ := hrun
  exact Did.val R ha hd (hzr c) (by
    have : (execOp a.eval o).run P c.w = ((do eqGuard op t x (.const .nilIface) u .nilIface; binOp op t u .nilIface : Sem Value).run P c.w).andThen fun z w' => .ok (.value z) w' := by
      have hc : a.eval (.const .nilIface) = .nilIface := rfl
      simp only [execOp, hop, hu, hc, Sem.run_bind, Sem.run_pure]
    rw [this, hz]; rfl)
end
/-- More operations; each is told with what it asks. -/
inductive OpX (P : Program) (σ : St) (o : Oper) : Eff → Prop where
  | sdata {x : Operand} {ts : Array Nat} {b : Id} {v n : Nat} {fl : Bool} {e sz : Nat} {rs : List (List PV)} (hop : o.op = .call { callee := .builtin .unsafeSliceData, args := #[x], argTypes := ts }) (hx : σ.ev x = .own b v n) (h0 : 0 < n) (hl : look σ.m b v = some (.rows fl e sz rs)) : OpX P σ o ⟨.ptr b v 0 0, [], []⟩
  | ustr {x y : Operand} {pt it : Nat} {b : Id} {v n : Nat} {l : List UInt8} {fl : Bool} {e : Nat} {rs : List (List PV)} (hop : o.op = .call { callee := .builtin .unsafeString, args := #[x, y], argTypes := #[pt, it] }) (hx : σ.ev x = .ptr b v 0 0) (hy : σ.ev y = .int .i64 n) (hl : look σ.m b v = some (.rows fl e 1 rs)) (hb : rs.take n = l.map eB) (hn : n ≤ rs.length) (h0 : 0 < n) (hp : P.underlying pt = some (.pointer e)) (hc : P.cellsOf e = 1) : OpX P σ o ⟨.str ⟨l.toArray⟩, [], [(b, ⟨v + 1, none⟩)]⟩
  | sdataN {x : Operand} {ts : Array Nat} (hop : o.op = .call { callee := .builtin .unsafeSliceData, args := #[x], argTypes := ts }) (hx : σ.ev x = .nils) : OpX P σ o ⟨.nilp, [], []⟩
  | ustrN {x y : Operand} {pt it : Nat} (hop : o.op = .call { callee := .builtin .unsafeString, args := #[x, y], argTypes := #[pt, it] }) (hx : σ.ev x = .nilp) (hy : σ.ev y = .int .i64 0) : OpX P σ o ⟨.str ⟨#[]⟩, [], []⟩
  | convRS {s t e : Nat} {x : Operand} {l : List UInt8} (hop : o.op = .convert s t x) (hx : σ.ev x = .ro (l.map eB)) (hs : elP P s = some e) (he : intP P e = some .u8) (ht : strP P t = true) : OpX P σ o ⟨.str ⟨l.toArray⟩, [], []⟩
  | convOS {s t e : Nat} {x : Operand} {l : List UInt8} {b : Id} {v n : Nat} {fl : Bool} {e' : Nat} {rs : List (List PV)} (hop : o.op = .convert s t x) (hx : σ.ev x = .own b v n) (hl : look σ.m b v = some (.rows fl e' 1 rs)) (hb : rs.take n = l.map eB) (hn : n ≤ rs.length) (hs : elP P s = some e) (he : intP P e = some .u8) (ht : strP P t = true) : OpX P σ o ⟨.str ⟨l.toArray⟩, [], []⟩
  | convSR {s t e : Nat} {x : Operand} {y : ByteArray} (hop : o.op = .convert s t x) (hx : σ.ev x = .str y) (hs : strP P s = true) (ht : elP P t = some e) (he : intP P e = some .u8) (hz : y.size ≤ 9223372036854775807) : OpX P σ o ⟨.ro (y.data.toList.map eB), [], []⟩
  | slice3R {t e : Nat} {x hi mx : Operand} {lo : Option Operand} {rows : List (List PV)} {l h : Int} (hop : o.op = .slice t x lo (some hi) (some mx)) (hx : σ.ev x = .ro rows) (ht : elP P t = some e) (h0 : 0 < szP P e) (hrows : rowsOk (szP P e) (.ro rows) = true)
    (hl : loP σ.ev lo = some l) (hh : intOfP (σ.ev hi) = some h) (hm : intOfP (σ.ev mx) = some h) (b0 : 0 ≤ l) (b1 : l ≤ h) (b2 : h ≤ rows.length) : OpX P σ o ⟨.ro ((rows.take h.toNat).drop l.toNat), [], []⟩
  | slice3N {t e : Nat} {x hi mx : Operand} {lo : Option Operand} (hop : o.op = .slice t x lo (some hi) (some mx)) (hx : σ.ev x = .nils) (ht : elP P t = some e) (h0 : 0 < szP P e) (hl : loP σ.ev lo = some 0) (hh : intOfP (σ.ev hi) = some 0) (hm : intOfP (σ.ev mx) = some 0) : OpX P σ o ⟨.nils, [], []⟩
  | clip {t e : Nat} {x hi mx : Operand} {lo : Option Operand} {b : Id} {v n : Nat} {e' sz : Nat} {rs : List (List PV)} {h : Nat} (hop : o.op = .slice t x lo (some hi) (some mx)) (hx : σ.ev x = .own b v n) (ht : elP P t = some e) (h0 : 0 < szP P e) (hlk : look σ.m b v = some (.rows true e' sz rs))
    (hl : loP σ.ev lo = some 0) (hh : intOfP (σ.ev hi) = some (h : Int)) (hm : intOfP (σ.ev mx) = some (h : Int)) (b2 : h ≤ n) : OpX P σ o ⟨.own b (v + 1) h, [], [(b, ⟨v + 1, some (.rows true e' sz (rs.take h))⟩)]⟩
  | unxor {t : Nat} {x : Operand} {k : IntKind} {n : Int} {r : PV} (hop : o.op = .unOp .xor t x) (hr : σ.ev x = .int k n) (hx : binI .xor k (if k.signed then -1 else k.max) n = some r) : OpX P σ o ⟨r, [], []⟩
  | aidx {t n e : Nat} {x ix : Operand} {cs : List PV} {i : Nat} {y : PV} (hop : o.op = .index t x ix) (ht : P.underlying t = some (.array n e)) (he : aggP P e = false) (hk : knownP P e = true) (hz : szP P e = 1) (hx : σ.ev x = .agg cs) (hi : intOfP (σ.ev ix) = some (i : Int)) (h1 : i < n) (hy : cs[i]? = some y) : OpX P σ o ⟨y, [], []⟩
  | aadr {t n e : Nat} {x ix : Operand} {b : Id} {v i q : Nat} {fl : Bool} {e' sz : Nat} {rs : List (List PV)} {j : Nat} (hop : o.op = .indexAddr t x ix) (ht : P.underlying t = some (.array n e)) (hz : 0 < szP P e) (hx : σ.ev x = .ptr b v i q) (hl : look σ.m b v = some (.rows fl e' sz rs)) (hi : i < rs.length) (hj : intOfP (σ.ev ix) = some (j : Int)) (h1 : j < n) : OpX P σ o ⟨.ptr b v i (q + j * szP P e), [], []⟩
  | peq {op : BinOp} {t te q : Nat} {x y : Operand} {r : PV} {b : Id} {v i f : Nat} {fl : Bool} {e sz : Nat} {rs : List (List PV)} (hop : o.op = .binOp op t x y q) (ht : P.underlying t = some (.pointer te)) (hr : eqB op false = some r) (hy : σ.ev y = .nilp) (hx : σ.ev x = .ptr b v i f) (hl : look σ.m b v = some (.rows fl e sz rs)) (hi : i < rs.length) : OpX P σ o ⟨r, [], []⟩
  | peqN {op : BinOp} {t te q : Nat} {x y : Operand} {r : PV} (hop : o.op = .binOp op t x y q) (ht : P.underlying t = some (.pointer te)) (hr : eqB op true = some r) (hy : σ.ev y = .nilp) (hx : σ.ev x = .nilp) : OpX P σ o ⟨r, [], []⟩
  | ieqN {op : BinOp} {t q : Nat} {ms : Array (String × TypeId)} {x : Operand} {r : PV} (hop : o.op = .binOp op t x (.const .nilIface) q) (ht : P.underlying t = some (.interface ms)) (hr : eqB op true = some r) (hx : σ.ev x = .nili) : OpX P σ o ⟨r, [], []⟩
  | ieqF {op : BinOp} {t q : Nat} {ms : Array (String × TypeId)} {x : Operand} {r : PV} (hop : o.op = .binOp op t x (.const .nilIface) q) (ht : P.underlying t = some (.interface ms)) (hr : eqB op false = some r) (hx : σ.ev x = .ife) : OpX P σ o ⟨r, [], []⟩
  | appZ {x y : Operand} {t tn e : Nat} {kn : IntKind} {zs : List Value} {k : IntKind} {n : Nat} (hop : o.op = .call { callee := .builtin .append, args := #[x, y], argTypes := #[t, tn] }) (ht : elP P t = some e) (htn : intP P tn = some kn) (hz : zeroP P e = some zs) (hzl : zs.length = szP P e) (h0 : 0 < szP P e) (hx : σ.ev x = .nils) (hy : σ.ev y = .int k n) (hn : 0 < n) (h63 : n ≤ 9223372036854775807) (hby : n * byP P e ≤ 140737488355328) : OpX P σ o ⟨.own (.loc (o.dst.getD 0) 0) ((σ.m (.loc (o.dst.getD 0) 0)).ver + 1) n, [], [(.loc (o.dst.getD 0) 0, ⟨(σ.m (.loc (o.dst.getD 0) 0)).ver + 1, some (.rows true e (szP P e) [])⟩)]⟩
  | psame {op : BinOp} {t te q : Nat} {x y : Operand} {r : PV} {b : Id} {v i f : Nat} {fl : Bool} {e sz : Nat} {rs : List (List PV)} (hop : o.op = .binOp op t x y q) (ht : P.underlying t = some (.pointer te)) (hte : 0 < szP P te) (hr : eqB op true = some r) (hx : σ.ev x = .ptr b v i f) (hy : σ.ev y = .ptr b v i f) (hl : look σ.m b v = some (.rows fl e sz rs)) (hi : i < rs.length) : OpX P σ o ⟨r, [], []⟩
section
variable {P : Program} {w0 : World} {foot omut : Nat → Prop} {σ : St} {tmps : Array Value} {c : Cx}
theorem opX_sound (R : Rel w0 foot omut σ tmps c) {a : Act} (ha : a.tmps = tmps) {o : Oper} (hd : ∀ d, o.dst = some d → d < tmps.size) {e : Eff} (h : OpX P σ o e) : Did P w0 foot omut σ c o a e := by
  cases h with
  | sdata hop hx h0 hl => exact did_sdata R ha hd hop hx h0 hl _
  | ustr hop hx hy hl hb hn h0 hp hc => exact did_ustr R ha hd hop hx hy hl hb hn h0 hp hc _
  | sdataN hop hx => exact did_sdataN R ha hd hop hx _
  | ustrN hop hx hy => exact did_ustrN R ha hd hop hx hy _
  | convRS hop hx hs he ht => exact did_convRS R ha hd hop hx hs he ht _
  | convOS hop hx hl hb hn hs he ht => exact did_convOS R ha hd hop hx hl hb hn hs he ht _
  | convSR hop hx hs ht he hz => exact did_convSR R ha hd hop hx hs ht he hz _
  | slice3R hop hx ht h0 hrows hl hh hm b0 b1 b2 => exact did_slice3R R ha hd hop hx ht h0 hrows hl hh hm b0 b1 b2 _
  | slice3N hop hx ht h0 hl hh hm => exact did_slice3N R ha hd hop hx ht h0 hl hh hm _
  | clip hop hx ht h0 hlk hl hh hm b2 => exact did_clip R ha hd hop hx ht h0 hlk hl hh hm b2 _
  | unxor hop hr hx => exact did_unxor R ha hd hop hr hx _
  | aidx hop ht he hk hz hx hi h1 hy => exact did_aidx R ha hd hop ht he hk hz hx hi h1 hy _
  | aadr hop ht hz hx hl hi hj h1 => exact did_aadr R ha hd hop ht hz hx hl hi hj h1 _
  | peq hop ht hr hy hx hl hi => exact did_peq R ha hd hop ht hr hy (.inr ⟨rfl, _, _, _, _, hx, _, _, _, _, hl, hi⟩) _
  | peqN hop ht hr hy hx => exact did_peq R ha hd hop ht hr hy (.inl ⟨rfl, hx⟩) _
  | ieqN hop ht hr hx => exact did_ieq R ha hd hop ht hr (.inl ⟨rfl, hx⟩) _
  | ieqF hop ht hr hx => exact did_ieq R ha hd hop ht hr (.inr ⟨rfl, hx⟩) _
  | appZ hop ht htn hz hzl h0 hx hy hn h63 hby => exact did_appZ R ha hd hop ht htn hz hzl h0 hx hy hn h63 hby _ _
  | psame hop ht hte hr hx hy hl hi => exact did_psame R ha hd hop ht hte hr hx hy hl hi _
theorem loP_congr {ev ev' : Operand → PV} {lo : Option Operand} (h : ∀ x, lo = some x → ev' x = ev x) : loP ev' lo = loP ev lo := by
  cases lo with
  | none => rfl
  | some z => simp only [loP]; rw [h z rfl]
theorem lookC {σ τ : St} {b : Id} {v : Nat} {x : Cont} (h : look σ.m b v = some x) (hm : τ.m b = σ.m b) : look τ.m b v = some x := by unfold look at h ⊢; rw [hm]; exact h
theorem refs_in {σ : St} {o : Oper} {x : Operand} {b : Id} {l : List Id} (hn : isMove o.op = false) (hx : x ∈ o.op.operands) (hb : b ∈ refsC (σ.ev x)) : b ∈ refsOf σ o ++ l := by
  refine List.mem_append.2 (.inl ?_)
  unfold refsOf
  rw [if_neg (by rw [hn]; decide)]
  exact List.mem_flatMap.2 ⟨x, by simpa using hx, hb⟩
theorem opX_near {σ τ : St} {o : Oper} {e : Eff} (h : OpX P σ o e) (hev : ∀ x ∈ o.op.operands, τ.ev x = σ.ev x) (hm : ∀ b ∈ refsOf σ o ++ e.wr.map (·.1), τ.m b = σ.m b) : OpX P τ o e := by
  cases h with
  | @sdata x _ b v n _ _ _ _ hop hx h0 hl =>
    have m1 : x ∈ o.op.operands := by rw [hop]; simp [Op.operands, Call.operands]
    exact .sdata hop ((hev _ m1).trans hx) h0 (lookC hl (hm b (refs_in (by rw [hop]; rfl) m1 (by rw [hx]; simp [refsC, refs]))))
  | @ustr x y _ _ b v n l _ _ _ hop hx hy hl hb hn h0 hp hc =>
    have m1 : x ∈ o.op.operands := by rw [hop]; simp [Op.operands, Call.operands]
    have m2 : y ∈ o.op.operands := by rw [hop]; simp [Op.operands, Call.operands]
    exact .ustr hop ((hev _ m1).trans hx) ((hev _ m2).trans hy) (lookC hl (hm b (refs_in (by rw [hop]; rfl) m1 (by rw [hx]; simp [refsC, refs])))) hb hn h0 hp hc
  | @sdataN x _ hop hx =>
    have m1 : x ∈ o.op.operands := by rw [hop]; simp [Op.operands, Call.operands]
    exact .sdataN hop ((hev _ m1).trans hx)
  | @ustrN x y _ _ hop hx hy =>
    have m1 : x ∈ o.op.operands := by rw [hop]; simp [Op.operands, Call.operands]
    have m2 : y ∈ o.op.operands := by rw [hop]; simp [Op.operands, Call.operands]
    exact .ustrN hop ((hev _ m1).trans hx) ((hev _ m2).trans hy)
  | @convRS _ _ _ x _ hop hx hs he ht =>
    have m1 : x ∈ o.op.operands := by rw [hop]; simp [Op.operands]
    exact .convRS hop ((hev _ m1).trans hx) hs he ht
  | @convOS _ _ _ x _ b _ _ _ _ _ hop hx hl hb hn hs he ht =>
    have m1 : x ∈ o.op.operands := by rw [hop]; simp [Op.operands]
    exact .convOS hop ((hev _ m1).trans hx) (lookC hl (hm b (refs_in (by rw [hop]; rfl) m1 (by rw [hx]; simp [refsC, refs])))) hb hn hs he ht
  | @convSR _ _ _ x _ hop hx hs ht he hz =>
    have m1 : x ∈ o.op.operands := by rw [hop]; simp [Op.operands]
    exact .convSR hop ((hev _ m1).trans hx) hs ht he hz
  | @slice3R _ _ x hi mx lo _ _ _ hop hx ht h0 hrows hl hh hm' b0 b1 b2 =>
    have m1 : x ∈ o.op.operands := by rw [hop]; simp [Op.operands]
    have m2 : hi ∈ o.op.operands := by rw [hop]; simp [Op.operands]
    have m3 : mx ∈ o.op.operands := by rw [hop]; simp [Op.operands]
    have e4 : loP τ.ev lo = loP σ.ev lo := loP_congr (fun z hz => hev z (by rw [hop, hz]; simp [Op.operands]))
    exact .slice3R hop ((hev _ m1).trans hx) ht h0 hrows (e4.trans hl) (by rw [hev _ m2]; exact hh) (by rw [hev _ m3]; exact hm') b0 b1 b2
  | @slice3N _ _ x hi mx lo hop hx ht h0 hl hh hm' =>
    have m1 : x ∈ o.op.operands := by rw [hop]; simp [Op.operands]
    have m2 : hi ∈ o.op.operands := by rw [hop]; simp [Op.operands]
    have m3 : mx ∈ o.op.operands := by rw [hop]; simp [Op.operands]
    have e4 : loP τ.ev lo = loP σ.ev lo := loP_congr (fun z hz => hev z (by rw [hop, hz]; simp [Op.operands]))
    exact .slice3N hop ((hev _ m1).trans hx) ht h0 (e4.trans hl) (by rw [hev _ m2]; exact hh) (by rw [hev _ m3]; exact hm')
  | @clip _ _ x hi mx lo b _ _ _ _ _ _ hop hx ht h0 hlk hl hh hm' b2 =>
    have m1 : x ∈ o.op.operands := by rw [hop]; simp [Op.operands]
    have m2 : hi ∈ o.op.operands := by rw [hop]; simp [Op.operands]
    have m3 : mx ∈ o.op.operands := by rw [hop]; simp [Op.operands]
    have e4 : loP τ.ev lo = loP σ.ev lo := loP_congr (fun z hz => hev z (by rw [hop, hz]; simp [Op.operands]))
    exact .clip hop ((hev _ m1).trans hx) ht h0 (lookC hlk (hm b (refs_in (by rw [hop]; rfl) m1 (by rw [hx]; simp [refsC, refs])))) (e4.trans hl) (by rw [hev _ m2]; exact hh) (by rw [hev _ m3]; exact hm') b2
  | @unxor _ x _ _ _ hop hr hx =>
    have m1 : x ∈ o.op.operands := by rw [hop]; simp [Op.operands]
    exact .unxor hop ((hev _ m1).trans hr) hx
  | @aidx _ _ _ x ix _ _ _ hop ht he hk hz hx hi h1 hy =>
    have m1 : x ∈ o.op.operands := by rw [hop]; simp [Op.operands]
    have m2 : ix ∈ o.op.operands := by rw [hop]; simp [Op.operands]
    exact .aidx hop ht he hk hz ((hev _ m1).trans hx) (by rw [hev _ m2]; exact hi) h1 hy
  | @aadr _ _ _ x ix b _ _ _ _ _ _ _ _ hop ht hz hx hl hi hj h1 =>
    have m1 : x ∈ o.op.operands := by rw [hop]; simp [Op.operands]
    have m2 : ix ∈ o.op.operands := by rw [hop]; simp [Op.operands]
    exact .aadr hop ht hz ((hev _ m1).trans hx) (lookC hl (hm b (refs_in (by rw [hop]; rfl) m1 (by rw [hx]; simp [refsC, refs])))) hi (by rw [hev _ m2]; exact hj) h1
  | @peq _ _ _ _ x y _ b _ _ _ _ _ _ _ hop ht hr hy hx hl hi =>
    have m1 : x ∈ o.op.operands := by rw [hop]; simp [Op.operands]
    have m2 : y ∈ o.op.operands := by rw [hop]; simp [Op.operands]
    exact .peq hop ht hr ((hev _ m2).trans hy) ((hev _ m1).trans hx) (lookC hl (hm b (refs_in (by rw [hop]; rfl) m1 (by rw [hx]; simp [refsC, refs])))) hi
  | @peqN _ _ _ _ x y _ hop ht hr hy hx =>
    have m1 : x ∈ o.op.operands := by rw [hop]; simp [Op.operands]
    have m2 : y ∈ o.op.operands := by rw [hop]; simp [Op.operands]
    exact .peqN hop ht hr ((hev _ m2).trans hy) ((hev _ m1).trans hx)
  | @ieqN _ _ _ _ x _ hop ht hr hx =>
    have m1 : x ∈ o.op.operands := by rw [hop]; simp [Op.operands]
    exact .ieqN hop ht hr ((hev _ m1).trans hx)
  | @ieqF _ _ _ _ x _ hop ht hr hx =>
    have m1 : x ∈ o.op.operands := by rw [hop]; simp [Op.operands]
    exact .ieqF hop ht hr ((hev _ m1).trans hx)
  | @appZ x y _ _ _ _ _ _ _ hop ht htn hz hzl h0 hx hy hn h63 hby =>
    have m1 : x ∈ o.op.operands := by rw [hop]; simp [Op.operands, Call.operands]
    have m2 : y ∈ o.op.operands := by rw [hop]; simp [Op.operands, Call.operands]
    have e1 := hm (.loc (o.dst.getD 0) 0) (List.mem_append.2 (.inr (by simp)))
    have := OpX.appZ (P := P) (σ := τ) (o := o) hop ht htn hz hzl h0 ((hev _ m1).trans hx) ((hev _ m2).trans hy) hn h63 hby
    rwa [e1] at this
  | @psame _ _ _ _ x y _ b _ _ _ _ _ _ _ hop ht hte hr hx hy hl hi =>
    have m1 : x ∈ o.op.operands := by rw [hop]; simp [Op.operands]
    have m2 : y ∈ o.op.operands := by rw [hop]; simp [Op.operands]
    exact .psame hop ht hte hr ((hev _ m1).trans hx) ((hev _ m2).trans hy) (lookC hl (hm b (refs_in (by rw [hop]; rfl) m1 (by rw [hx]; simp [refsC, refs])))) hi
end
/-- Each operation: a call of a function of the text, or one that is reckoned, or told by itself. -/
def StepE (P : Program) [Tbl P] (σ : St) (o : Oper) (e : Eff) : Prop :=
  match o.op with
  | .call { callee := .value f, args, .. } => match σ.ev f with
    | .fn g caps => CallE P σ (o.dst.getD 0) g (args.toList.map σ.ev ++ caps) e ∨ CallD P σ (o.dst.getD 0) g (args.toList.map σ.ev ++ caps) e ∨ CallR P σ g (args.toList.map σ.ev ++ caps) e
    | _ => False
  | _ => opS P σ o e ∨ OpX P σ o e
end Go.Proofs.Ev
namespace Go.Proofs.Ev
open Go Go.RowKit
set_option linter.unusedVariables false
set_option linter.unusedSimpArgs false
section
variable {P : Program} {w0 : World} {foot omut : Nat → Prop}
theorem fillP_congr {t : Nat} {ev ev' : Operand → PV} : ∀ (ps : List (Nat × Operand)) (cs : List PV), (∀ p ∈ ps, ev' p.2 = ev p.2) → fillP P t ev' ps cs = fillP P t ev ps cs := by
  intro ps
  induction ps with
  | nil => intro cs _; rfl
  | cons p ps ih =>
    obtain ⟨i, x⟩ := p
    intro cs h
    simp only [fillP]
    rw [h (i, x) (by simp)]
    split
    · split
      · exact ih _ (fun p hp => h p (by simp [hp]))
      · rfl
    · rfl
theorem fillR_congr {sz : Nat} {ev ev' : Operand → PV} : ∀ (ps : List (Nat × Operand)) (rs : List (List PV)), (∀ p ∈ ps, ev' p.2 = ev p.2) → fillR sz ev' ps rs = fillR sz ev ps rs := by
  intro ps
  induction ps with
  | nil => intro cs _; rfl
  | cons p ps ih =>
    obtain ⟨i, x⟩ := p
    intro rs h
    simp only [fillR]
    rw [h (i, x) (by simp)]
    split
    · exact ih _ (fun p hp => h p (by simp [hp]))
    · rfl
theorem look_congr {m m' : Id → Blk} {b : Id} {v : Nat} (h : m' b = m b) : look m' b v = look m b v := by
  unfold look; rw [h]
theorem refs_mem {σ : St} {o : Oper} {x : Operand} {b : Id} (hn : ¬ isMove o.op = true) (hx : x ∈ o.op.operands) (hb : b ∈ refsC (σ.ev x)) : b ∈ refsOf σ o := by
  unfold refsOf
  rw [if_neg hn]
  exact List.mem_flatMap.2 ⟨x, by simpa using hx, hb⟩
theorem isMove_of {x : Op} (h : isMove x = true) : ∃ t, x = .move (.tmp t) := by
  unfold isMove at h
  split at h
  · exact ⟨_, rfl⟩
  · cases h
theorem ownLive_congr {m m' : Id → Blk} {x : PV} (h : ∀ b ∈ refsC x, m' b = m b) : ownLive m' x = ownLive m x := by
  cases x <;> first | rfl | (simp only [ownLive]; rw [look_congr (h _ (by simp [refsC, refs]))])
theorem sliceOk_congr {m m' : Id → Blk} {t : Nat} {x : PV} (h : ∀ b ∈ refsC x, m' b = m b) : sliceOk P m' t x = sliceOk P m t x := by
  unfold sliceOk; rw [ownLive_congr h]
theorem lenOk_congr {m m' : Id → Blk} {t : Nat} {x : PV} (h : ∀ b ∈ refsC x, m' b = m b) : lenOk P m' t x = lenOk P m t x := by
  unfold lenOk; rw [ownLive_congr h]
theorem mkB_congr {m m' : Id → Blk} {b : Id} {c : Cont} (h : m' b = m b) : mkB m' b c = mkB m b c := by
  unfold mkB; rw [h]
theorem opF_near {σ τ : St} {o : Oper} {e : Eff} (h : opF P σ o = some e) (hev : ∀ x ∈ o.op.operands, τ.ev x = σ.ev x) (hm : ∀ b ∈ refsOf σ o ++ e.wr.map (·.1), τ.m b = σ.m b) : opF P τ o = some e := by
  by_cases hmv : isMove o.op = true
  · obtain ⟨t, hop⟩ := isMove_of hmv
    have e1 := hev (.tmp t) (by rw [hop]; simp [Op.operands])
    unfold opF at h ⊢
    rw [hop] at h ⊢
    dsimp only at h ⊢
    rw [e1]
    exact h
  have hr : ∀ x ∈ o.op.operands, ∀ b ∈ refsC (σ.ev x), τ.m b = σ.m b := fun x hx b hb => hm b (List.mem_append.2 (.inl (refs_mem hmv hx hb)))
  have hw : ∀ b, b ∈ e.wr.map (·.1) → τ.m b = σ.m b := fun b hb => hm b (List.mem_append.2 (.inr hb))
  clear hm
  unfold opF at h ⊢
  dsimp only at h ⊢
  split at h
  · rename_i hop
    split at h
    · rename_i e' he
      try simp only [he]
      split at h
      · rename_i h0
        cases h
        have := hw (.loc (o.dst.getD 0) 0) (by simp [mkB])
        rw [if_pos h0, this, mkB_congr this]
      · cases h
    · cases h
  · rename_i hop
    split at h
    · rename_i e' he
      try simp only [he]
      split at h
      · rename_i h0
        cases h
        have := hw (.loc (o.dst.getD 0) 0) (by simp [mkB])
        rw [if_pos h0, this, mkB_congr this]
      · cases h
    · cases h
  · rename_i x hn hop
    have e1 := hev x (by rw [hop]; simp [Op.operands])
    rw [e1]; exact h
  · rename_i x hn hop
    have e1 := hev x (by rw [hop]; simp [Op.operands])
    rw [e1]; exact h
  · rename_i c a b hop
    have e1 := hev c (by rw [hop]; simp [Op.operands])
    have e2 := hev a (by rw [hop]; simp [Op.operands])
    have e3 := hev b (by rw [hop]; simp [Op.operands])
    rw [e1, e2, e3]
    exact h
  · rename_i t hop
    split at h
    · rename_i zs hz
      try simp only [hz]
      split at h
      · rename_i h0
        cases h
        have := hw (.loc (o.dst.getD 0) 0) (by simp [mkB])
        rw [if_pos h0, this, mkB_congr this]
      · cases h
    · cases h
  · rename_i t x hop
    have e1 := hev x (by rw [hop]; simp [Op.operands])
    rw [e1]
    split at h
    · rename_i h0
      cases h
      have := hw (.loc (o.dst.getD 0) 0) (by simp [mkB])
      rw [if_pos h0, this, mkB_congr this]
    · cases h
  · rename_i t ps hop
    have e1 : ∀ p ∈ ps.toList, τ.ev p.2 = σ.ev p.2 := fun p hp => hev p.2 (by rw [hop]; simp only [Op.operands]; simp; exact ⟨p.1, by simpa using hp⟩)
    split at h
    · rename_i hs
      rw [if_pos hs]
      split at h
      · rename_i zs hz
        try simp only [hz]
        rw [fillP_congr ps.toList _ e1]
        exact h
      · cases h
    · cases h
  · rename_i t n ps hop
    have e1 : ∀ p ∈ ps.toList, τ.ev p.2 = σ.ev p.2 := fun p hp => hev p.2 (by rw [hop]; simp only [Op.operands]; simp; exact ⟨p.1, by simpa using hp⟩)
    split at h
    · rename_i e' he
      try simp only [he]
      split at h
      · rename_i zs hz
        try simp only [hz]
        split at h
        · rename_i h0
          rw [if_pos h0, fillR_congr ps.toList _ e1]
          obtain ⟨rs, hrs, h⟩ := bind_some h
          rw [hrs]
          simp only [Option.bind_some]
          split at h
          · rename_i h1
            cases h
            have := hw (.loc (o.dst.getD 0) 0) (by simp [mkB])
            rw [if_pos h1, this, mkB_congr this]
          · cases h
        · cases h
      · cases h
    · cases h
  · rename_i t x hop
    have e1 := hev x (by rw [hop]; simp [Op.operands])
    have r1 := hr x (by rw [hop]; simp [Op.operands])
    split at h
    · rename_i hk
      rw [if_pos hk, e1]
      split at h
      · rename_i b v i f hx
        rw [hx] at r1
        try simp only [hx]
        rw [look_congr (r1 b (by simp [refsC, refs]))]
        exact h
      · rename_i row f hx
        try simp only [hx]
        exact h
      · cases h
    · cases h
  · rename_i t x y hop
    have e1 := hev x (by rw [hop]; simp [Op.operands])
    have e2 := hev y (by rw [hop]; simp [Op.operands])
    have r1 := hr x (by rw [hop]; simp [Op.operands])
    split at h
    · rename_i hk
      rw [if_pos hk, e1, e2]
      split at h
      · rename_i b v i f hx
        rw [hx] at r1
        try simp only [hx]
        rw [look_congr (r1 b (by simp [refsC, refs]))]
        exact h
      · cases h
    · cases h
  · rename_i x hop
    have e1 := hev x (by rw [hop]; simp [Op.operands])
    have r1 := hr x (by rw [hop]; simp [Op.operands])
    rw [e1]
    split at h
    · rename_i b v i f hx
      rw [hx] at r1
      try simp only [hx]
      rw [look_congr (r1 b (by simp [refsC, refs]))]
      exact h
    · rename_i row f hx
      try simp only [hx]
      exact h
    · cases h
  · rename_i op t x y q hop
    have e1 := hev x (by rw [hop]; simp [Op.operands])
    have e2 := hev y (by rw [hop]; simp [Op.operands])
    rw [e1, e2]
    exact h
  · rename_i t x hop
    have e1 := hev x (by rw [hop]; simp [Op.operands])
    rw [e1]
    exact h
  · rename_i t x hop
    have e1 := hev x (by rw [hop]; simp [Op.operands])
    rw [e1]
    exact h
  · rename_i s t x hop
    have e1 := hev x (by rw [hop]; simp [Op.operands])
    rw [e1]
    exact h
  · rename_i f first caps hop
    split at h
    · rename_i hf
      subst hf
      rw [if_pos rfl]
      have e1 : caps.toList.map τ.ev = caps.toList.map σ.ev := List.map_congr_left (fun x hx => hev x (by rw [hop]; simp [Op.operands]; simpa using hx))
      rw [e1]
      exact h
    · cases h
  · rename_i t x lo hi hop
    have e1 := hev x (by rw [hop]; simp [Op.operands])
    have r1 := hr x (by rw [hop]; simp [Op.operands])
    have e2 : loP τ.ev lo = loP σ.ev lo := by
      cases lo with
      | none => rfl
      | some z => simp only [loP]; rw [hev z (by rw [hop]; simp [Op.operands])]
    have e3 : hiP τ.ev hi = hiP σ.ev hi := by
      cases hi with
      | none => rfl
      | some z => simp only [hiP]; rw [hev z (by rw [hop]; simp [Op.operands])]
    rw [e1, e2, e3, sliceOk_congr r1]
    exact h
  · rename_i s x f hop
    have e1 := hev x (by rw [hop]; simp [Op.operands])
    have r1 := hr x (by rw [hop]; simp [Op.operands])
    split at h
    · rename_i off ft ho
      try simp only [ho]
      split at h
      · cases h
      · rename_i hz
        rw [if_neg hz, e1]
        split at h
        · rename_i b v i q hx
          rw [hx] at r1
          try simp only [hx]
          rw [look_congr (r1 b (by simp [refsC, refs]))]
          exact h
        · rename_i row q hx
          try simp only [hx]
          exact h
        · cases h
    · cases h
  · rename_i t x f hop
    have e1 := hev x (by rw [hop]; simp [Op.operands])
    rw [e1]
    exact h
  · rename_i t x ix hop
    have e1 := hev x (by rw [hop]; simp [Op.operands])
    have e2 := hev ix (by rw [hop]; simp [Op.operands])
    have r1 := hr x (by rw [hop]; simp [Op.operands])
    rw [e1, e2]
    split at h
    · rename_i e' i he hi
      try simp only [he, hi]
      split at h
      · rename_i rows hx
        try simp only [hx]
        exact h
      · rename_i b v n hx
        rw [hx] at r1
        try simp only [hx]
        rw [look_congr (r1 b (by simp [refsC, refs]))]
        exact h
      · cases h
    · cases h
  · rename_i t x ix hop
    have e1 := hev x (by rw [hop]; simp [Op.operands])
    have e2 := hev ix (by rw [hop]; simp [Op.operands])
    rw [e1, e2]
    exact h
  · rename_i t x hop
    have e1 := hev x (by rw [hop]; simp [Op.operands])
    rw [e1]
    split at h
    · rename_i s hx
      try simp only [hx]
      split at h
      · rename_i h0
        cases h
        have := hw (.loc (o.dst.getD 0) 0) (by simp [mkB])
        rw [if_pos h0, this, mkB_congr this]
      · cases h
    · cases h
  · rename_i x hop
    have e1 := hev x (by rw [hop]; simp [Op.operands])
    have r1 := hr x (by rw [hop]; simp [Op.operands])
    rw [e1]
    split at h
    · rename_i b v hx
      rw [hx] at r1
      try simp only [hx]
      rw [look_congr (r1 b (by simp [refsC, refs]))]
      exact h
    · cases h
  · rename_i x i hop
    have e1 := hev x (by rw [hop]; simp [Op.operands])
    rw [e1]
    exact h
  · rename_i args ts hop
    split at h
    · rename_i x t ha ht
      have hx : x ∈ o.op.operands := by rw [hop]; simp [Op.operands, Call.operands]; have : x ∈ args.toList := by rw [ha]; simp
                                        simpa using this
      have e1 := hev x hx
      have r1 := hr x hx
      try simp only [ha, ht]
      rw [e1, lenOk_congr r1]
      exact h
    · cases h
  · rename_i args ts hop
    split at h
    · rename_i x y t t' ha ht
      have hx : x ∈ o.op.operands := by rw [hop]; simp [Op.operands, Call.operands]; have : x ∈ args.toList := by rw [ha]; simp
                                        simpa using this
      have hy : y ∈ o.op.operands := by rw [hop]; simp [Op.operands, Call.operands]; have : y ∈ args.toList := by rw [ha]; simp
                                        simpa using this
      have e1 := hev x hx
      have e2 := hev y hy
      have r1 := hr x hx
      have r2 := hr y hy
      try simp only [ha, ht]
      rw [e1, e2]
      split at h
      · rename_i htt
        rw [if_pos htt]
        split at h
        · rename_i e' b v n he hxx
          rw [hxx] at r1
          try simp only [he, hxx]
          rw [look_congr (r1 b (by simp [refsC, refs]))]
          split at h
          · rename_i hl hz
            try simp only [hl, hz]
            split at h
            · rename_i hc
              rw [if_pos hc]
              split at h
              · rename_i hyy
                try simp only [hyy]
                exact h
              · rename_i hyy
                try simp only [hyy]
                exact h
              · rename_i hyy
                try simp only [hyy]
                exact h
              · rename_i b' v' n' hyy
                rw [hyy] at r2
                try simp only [hyy]
                rw [look_congr (r2 b' (by simp [refsC, refs]))]
                exact h
              · cases h
            · cases h
          · cases h
        · rename_i e' he hxx
          try simp only [he, hxx]
          split at h
          · rename_i hz
            try simp only [hz]
            split at h
            · rename_i hc
              rw [if_pos hc]
              split at h
              · rename_i hyy
                try simp only [hyy]
                split at h
                · rename_i hg
                  cases h
                  have := hw (.loc (o.dst.getD 0) 0) (by simp)
                  rw [if_pos hg, this]
                · cases h
              · rename_i hyy
                try simp only [hyy]
                split at h
                · rename_i hg
                  cases h
                  have := hw (.loc (o.dst.getD 0) 0) (by simp)
                  rw [if_pos hg, this]
                · cases h
              · rename_i hyy
                try simp only [hyy]
                split at h
                · rename_i hg
                  cases h
                  have := hw (.loc (o.dst.getD 0) 0) (by simp)
                  rw [if_pos hg, this]
                · cases h
              · rename_i b' v' n' hyy
                rw [hyy] at r2
                try simp only [hyy]
                rw [look_congr (r2 b' (by simp [refsC, refs]))]
                split at h
                · rename_i hl'
                  try simp only [hl']
                  split at h
                  · rename_i hq
                    rw [if_pos hq]
                    split at h
                    · rename_i hg
                      cases h
                      have := hw (.loc (o.dst.getD 0) 0) (by simp)
                      rw [if_pos hg, this]
                    · cases h
                  · cases h
                · cases h
              · cases h
            · cases h
          · cases h
        · cases h
      · rename_i htt
        rw [if_neg htt]
        split at h
        · rename_i e' b v n s he hxx hyy
          rw [hxx] at r1
          try simp only [he, hxx, hyy]
          rw [look_congr (r1 b (by simp [refsC, refs]))]
          split at h
          · rename_i hl hz
            try simp only [hl, hz]
            exact h
          · cases h
        · rename_i e' s he hxx hyy
          try simp only [he, hxx, hyy]
          split at h
          · rename_i hz
            try simp only [hz]
            split at h
            · rename_i hg
              cases h
              have := hw (.loc (o.dst.getD 0) 0) (by simp)
              rw [if_pos hg, this]
            · cases h
          · cases h
        · cases h
    · cases h
  · rename_i args ts hop
    split at h
    · rename_i x y ha
      have e1 := hev x (by rw [hop]; simp [Op.operands, Call.operands]; have : x ∈ args.toList := by rw [ha]; simp
                           simpa using this)
      have e2 := hev y (by rw [hop]; simp [Op.operands, Call.operands]; have : y ∈ args.toList := by rw [ha]; simp
                           simpa using this)
      try simp only [ha]
      rw [e1, e2]
      exact h
    · cases h
  · rename_i args ts hop
    split at h
    · rename_i x y ha
      have e1 := hev x (by rw [hop]; simp [Op.operands, Call.operands]; have : x ∈ args.toList := by rw [ha]; simp
                           simpa using this)
      have e2 := hev y (by rw [hop]; simp [Op.operands, Call.operands]; have : y ∈ args.toList := by rw [ha]; simp
                           simpa using this)
      try simp only [ha]
      rw [e1, e2]
      exact h
    · cases h
  · rename_i ty l cp hop
    have e1 := hev l (by rw [hop]; simp [Op.operands])
    have e2 := hev cp (by rw [hop]; simp [Op.operands])
    rw [e1, e2]
    split at h
    · rename_i he hx hy
      try simp only [he, hx, hy]
      split at h
      · rename_i hz
        try simp only [hz]
        split at h
        · rename_i hc
          cases h
          have := hw (.loc (o.dst.getD 0) 0) (by simp [mkB])
          rw [if_pos hc, this, mkB_congr this]
        · cases h
      · cases h
    · cases h
  · rename_i args ts hop
    split at h
    · rename_i x t ha ht
      have e1 := hev x (by rw [hop]; simp [Op.operands, Call.operands]; have : x ∈ args.toList := by rw [ha]; simp
                           simpa using this)
      try simp only [ha, ht]
      rw [e1]
      exact h
    · cases h
  · cases h
end
end Go.Proofs.Ev
namespace Go.Proofs.Ev
open Go Go.RowKit
set_option linter.unusedVariables false
set_option linter.unusedSimpArgs false
section
variable {P : Program} [Tbl P] {w0 : World} {foot omut : Nat → Prop}
theorem ren1_congr {m m' : Id → Blk} {dst n : Nat} (h : ∀ j, j < n → m' (.loc dst j) = m (.loc dst j)) {x : PV} (hr : res1 n x = true) : ren1 m' dst x = ren1 m dst x := by
  unfold res1 at hr
  split at hr
  · rename_i j k; simp only [ren1]; rw [h j (by simpa using hr)]
  · rename_i j i o; simp only [ren1]; rw [h j (by simpa using hr)]
  · rfl
  · unfold ren1; split <;> simp_all [PV.sf]
theorem renA_congr {m m' : Id → Blk} {dst n : Nat} (h : ∀ j, j < n → m' (.loc dst j) = m (.loc dst j)) {x : PV} (hr : resA n x = true) : renA m' dst x = renA m dst x := by
  cases x with
  | agg cs =>
    simp only [renA]
    congr 1
    exact List.map_congr_left (fun x hx => ren1_congr h (List.all_eq_true.1 hr x hx))
  | _ => simp only [renA]; refine ren1_congr h ?_; simpa only [resA] using hr
theorem renR_congr {m m' : Id → Blk} {dst n : Nat} (h : ∀ j, j < n → m' (.loc dst j) = m (.loc dst j)) {x : PV} (hr : resR n x = true) : renR m' dst x = renR m dst x := by
  cases x with
  | tup cs =>
    simp only [renR]
    congr 1
    exact List.map_congr_left (fun x hx => renA_congr h (List.all_eq_true.1 hr x hx))
  | _ => simp only [renR]; refine renA_congr h ?_; simpa only [resR] using hr
theorem callE_near {σ τ : St} {dst f : Nat} {args : List PV} {e : Eff} (h : CallE P σ dst f args e) (hm : ∀ b ∈ e.wr.map (·.1), τ.m b = σ.m b) : CallE P τ dst f args e := by
  obtain ⟨ids, args', bs, r, nb, bs', h1, h2, h3, h4, h5, h6, h7, h8, h9, h10, h11, rfl⟩ := h
  have hloc : ∀ j, j < nb.length → τ.m (.loc dst j) = σ.m (.loc dst j) := by
    intro j hj
    refine hm _ ?_
    simp only [callEff, List.map_append, List.map_map]
    refine List.mem_append.2 (.inr (List.mem_map.2 ⟨(nb[j], j), ?_, rfl⟩))
    exact List.mem_iff_getElem?.2 ⟨j, by rw [List.getElem?_zipIdx, List.getElem?_eq_getElem hj]; simp⟩
  have hid : ∀ (k : Nat) (p : Id × Nat), ids[k]? = some p → τ.m p.1 = σ.m p.1 := by
    intro k p hk
    refine hm _ ?_
    simp only [callEff, List.map_append, List.map_map]
    have hlt : k < bs'.length := by rw [h4]; exact (List.getElem?_eq_some_iff.1 hk).1
    refine List.mem_append.2 (.inl (List.mem_map.2 ⟨(p, bs'[k]), ?_, rfl⟩))
    exact List.mem_iff_getElem?.2 ⟨k, by rw [List.getElem?_zip_eq_some]; exact ⟨hk, List.getElem?_eq_getElem hlt⟩⟩
  refine ⟨ids, args', bs, r, nb, bs', h1, h2, h3, h4, h5, fun k p hk => ?_, h7, h8, h9, h10, h11, ?_⟩
  · rw [hid k p hk]; exact h6 k p hk
  · unfold callEff
    rw [renR_congr hloc h10]
    congr 2
    refine List.map_congr_left (fun p hp => ?_)
    obtain ⟨j, hj⟩ := List.mem_iff_getElem?.1 hp
    rw [List.getElem?_zipIdx] at hj
    cases hq : nb[j]? with
    | none => rw [hq] at hj; cases hj
    | some q =>
      rw [hq] at hj
      cases hj
      have := hloc j (List.getElem?_eq_some_iff.1 hq).1
      simp only [Nat.zero_add]
      rw [this]
theorem out1_congr {ids : List (Id × Nat)} {vs : List Nat} {m m' : Id → Blk} {dst n : Nat} (h : ∀ j, j < n → m' (.loc dst j) = m (.loc dst j)) : out1 ids vs m' dst n = out1 ids vs m dst n := by
  funext x
  unfold out1
  split
  · rfl
  · rename_i j v i o
    by_cases hc : v = 1 ∧ j < n
    · rw [h j hc.2]
    · rw [if_neg hc, if_neg hc]
  · rfl
  · rename_i j v q
    by_cases hc : v = 1 ∧ j < n
    · rw [h j hc.2]
    · rw [if_neg hc, if_neg hc]
  · rfl
  · rfl
theorem callD_near {σ τ : St} {dst f : Nat} {args : List PV} {e : Eff} (h : CallD P σ dst f args e) (hm : ∀ b ∈ e.wr.map (·.1), τ.m b = σ.m b) : CallD P τ dst f args e := by
  obtain ⟨ids, args', bsC, bs, r, nb, bs', rO, nbO, bsO, h1, h2, h3, h4, h5, h6, h7, h8, h9, h10, h11, rfl⟩ := h
  have hnl := (liftCs_get h9).1
  have hbl := (liftOs_get h10).1
  rw [List.length_map] at hbl
  have hloc : ∀ j, j < nb.length → τ.m (.loc dst j) = σ.m (.loc dst j) := by
    intro j hj
    refine hm _ ?_
    simp only [effD, List.map_append, List.map_map]
    refine List.mem_append.2 (.inr (List.mem_map.2 ⟨(nbO[j], j), ?_, rfl⟩))
    exact List.mem_iff_getElem?.2 ⟨j, by rw [List.getElem?_zipIdx, List.getElem?_eq_getElem (by omega)]; simp⟩
  have hid : ∀ (k : Nat) (p : Id × Nat), ids[k]? = some p → τ.m p.1 = σ.m p.1 := by
    intro k p hk
    refine hm _ ?_
    simp only [effD, List.map_append, List.map_map]
    have hkl := (List.getElem?_eq_some_iff.1 hk).1
    have hlt : k < bs'.length := by omega
    have hlt2 : k < bsO.length := by omega
    refine List.mem_append.2 (.inl (List.mem_map.2 ⟨((p, bs'[k].1), bsO[k]), ?_, rfl⟩))
    refine List.mem_iff_getElem?.2 ⟨k, ?_⟩
    rw [List.getElem?_zip_eq_some]
    refine ⟨?_, List.getElem?_eq_getElem hlt2⟩
    rw [List.getElem?_zip_eq_some]
    exact ⟨hk, by rw [List.getElem?_map, List.getElem?_eq_getElem hlt]; rfl⟩
  have hc := out1_congr (ids := ids) (vs := bs'.map (·.1)) hloc
  refine ⟨ids, args', bsC, bs, r, nb, bs', rO, nbO, bsO, h1, h2, h3, h4, h5, fun k p hk => ?_, h7, by rw [hc]; exact h8, by rw [hc]; exact h9, by rw [hc]; exact h10, h11, ?_⟩
  · rw [hid k p hk]; exact h6 k p hk
  · unfold effD
    congr 2
    refine List.map_congr_left (fun p hp => ?_)
    obtain ⟨j, hj⟩ := List.mem_iff_getElem?.1 hp
    rw [List.getElem?_zipIdx] at hj
    cases hq : nbO[j]? with
    | none => rw [hq] at hj; cases hj
    | some q =>
      rw [hq] at hj
      cases hj
      have := hloc j (by have := (List.getElem?_eq_some_iff.1 hq).1; omega)
      simp only [Nat.zero_add]
      rw [this]
theorem refs_refsC {x : PV} {b : Ev.Id} (h : b ∈ refs x) : b ∈ refsC x := by
  cases x <;> first | exact h | (simp [refs] at h)
theorem callR_near {σ τ : St} {f : Nat} {args : List PV} {e : Eff} (h : CallR P σ f args e) (hm : ∀ x ∈ args, ∀ b ∈ refs x, τ.m b = σ.m b) : CallR P τ f args e := by
  obtain ⟨r, h1, h2, h3, h4, h5⟩ := h
  have e1 : args.map (rdV τ.m) = args.map (rdV σ.m) := List.map_congr_left (fun x hx => by
    cases x with
    | own b v n =>
      have := hm _ hx b (by simp [refs])
      simp only [rdV]
      rw [look_congr this]
    | _ => rfl)
  exact ⟨r, h1, by rw [e1]; exact h2, h3, by rw [e1]; exact h4, h5⟩
theorem opS_sound {σ : St} {tmps : Array Value} {c : Cx} (R : Rel w0 foot omut σ tmps c) {a : Act} (ha : a.tmps = tmps) {o : Oper} (hd : ∀ d, o.dst = some d → d < tmps.size) {e : Eff} (h : opS P σ o e) : Did P w0 foot omut σ c o a e := by
  obtain ⟨e0, h0, h1⟩ := h
  have hD := op_sound R ha hd h0
  rcases h1 with rfl | rfl
  · exact hD
  · obtain ⟨u, w', d, g1, g2, g3, g4, g5⟩ := hD
    refine ⟨u, w', d, g1, g2, g3, g4, ?_⟩
    refine ⟨fun i => ?_, g5.ver, g5.mem, g5.mt, g5.inj, g5.om, g5.fr, g5.bs, g5.fb, g5.bw⟩
    have h2 := g5.tm i
    revert h2
    unfold St.app
    cases o.dst with
    | none => exact fun h => h
    | some q =>
      simp only [upd]
      by_cases hi : i = q
      · rw [if_pos hi, if_pos hi]; exact nzA_rel
      · rw [if_neg hi, if_neg hi]; exact fun h => h
theorem stepE_good (hT : keepsF (Tbl.T P) w0 foot) {N : Nat} : Good P w0 foot omut N (StepE P) where
  sound := by
    intro σ c o a e R hN hd h
    have hd' : ∀ d, o.dst = some d → d < a.tmps.size := fun d h => by rw [hN]; exact hd d h
    unfold StepE at h
    split at h
    · rename_i f args ts hop
      split at h
      · rename_i g caps hf
        rcases h with h | h | h
        · exact call_sound hT R hd' hop hf h
        · exact callD_sound hT R hd' hop hf h
        · exact callR_sound hT R hd' hop hf h
      · exact h.elim
    · rcases h with h | h
      · exact (opS_sound R rfl hd' h).w
      · exact (opX_sound R rfl hd' h).w
  near := by
    intro σ τ o e h hev hm
    unfold StepE at h ⊢
    split at h
    · rename_i f args ts hop
      have ef : τ.ev f = σ.ev f := hev f (by rw [hop]; simp [Op.operands, Call.operands])
      have ea : args.toList.map τ.ev = args.toList.map σ.ev := List.map_congr_left (fun x hx => hev x (by rw [hop]; simp [Op.operands, Call.operands]; exact .inr (by simpa using hx)))
      rw [ef]
      split at h
      · rename_i g caps hf
        rw [ea]
        rcases h with h | h | h
        · exact .inl (callE_near h (fun b hb => hm b (List.mem_append.2 (.inr hb))))
        · exact .inr (.inl (callD_near h (fun b hb => hm b (List.mem_append.2 (.inr hb)))))
        · refine .inr (.inr (callR_near h (fun x hx b hb => hm b (List.mem_append.2 (.inl ?_)))))
          unfold refsOf
          rw [if_neg (by rw [hop]; simp [isMove]), hop]
          refine List.mem_flatMap.2 ?_
          rcases List.mem_append.1 hx with hx | hx
          · obtain ⟨y, hy, rfl⟩ := List.mem_map.1 hx
            refine ⟨y, ?_, refs_refsC hb⟩
            simp [Op.operands, Call.operands]
            exact .inr (by simpa using hy)
          · refine ⟨f, by simp [Op.operands, Call.operands], ?_⟩
            rw [hf]
            exact List.mem_flatMap.2 ⟨x, hx, hb⟩
      · exact h.elim
    · rcases h with h | h
      case inr => exact .inr (opX_near h hev hm)
      obtain ⟨e0, h0, h1⟩ := h
      refine .inl ⟨e0, opF_near h0 hev (fun b hb => hm b ?_), h1⟩
      rcases h1 with rfl | rfl <;> exact hb
/-- What leaves a function: its value, the blocks that are handed out, those that came in. -/
def exp1 (L : List (Id × Nat)) : PV → Option PV
  | .own b v n => (posOf L b v).map fun j => .own (.loc j 0) 1 n
  | .ptr b v i o => (posOf L b v).map fun j => .ptr (.loc j 0) 1 i o
  | .rp row o => some (.rp row o)
  | x => if x.sf = true then some x else none
def exp1L (L : List (Id × Nat)) : List PV → Option (List PV)
  | [] => some []
  | x :: l => (exp1 L x).bind fun y => (exp1L L l).map (y :: ·)
def expA (L : List (Id × Nat)) : PV → Option PV
  | .agg cs => (exp1L L cs).map .agg
  | x => exp1 L x
def expAL (L : List (Id × Nat)) : List PV → Option (List PV)
  | [] => some []
  | x :: l => (expA L x).bind fun y => (expAL L l).map (y :: ·)
/-- A result that lies in a cell. -/
def cellV (P : Program) (σ : St) (a ty : Nat) : Option PV := match σ.t a with
  | .ptr b v i o => match look σ.m b v with
    | some (.rows false _ _ rs) => if knownP P ty = true ∧ aggP P ty = true then (rs[i]?).bind fun row => loadRow P ty row o else none
    | _ => none
  | _ => none
/-- The results' values. -/
def resL (P : Program) (σ : St) : List ResultVar → Option (List PV)
  | [] => some []
  | .tmp t :: l => (resL P σ l).map (σ.t t :: ·)
  | .cell a ty :: l => (cellV P σ a ty).bind fun x => (resL P σ l).map (x :: ·)
def resV : List PV → PV
  | [x] => x
  | vs => .tup vs
def expR (L : List (Id × Nat)) : PV → Option PV
  | .tup vs => (expAL L vs).map .tup
  | x => expA L x
def nz : PV → PV
  | .tup vs => .tup (vs.map nzA)
  | x => nzA x
theorem nz_rel {c : Cx} {x : PV} {u : Value} (h : RelV c x u) : RelV c (nz x) u := by
  unfold nz
  split
  · rename_i cs
    cases h with
    | tup _ us hl hr =>
      refine .tup _ us (by simpa using hl) (fun i y u hy hu => ?_)
      rw [List.getElem?_map] at hy
      cases hq : cs[i]? with
      | none => rw [hq] at hy; cases hy
      | some q => rw [hq] at hy; cases hy; exact nzA_rel (hr i q u hq hu)
  · exact nzA_rel h
/-- The end of a function: some rows are given up, some handed out. -/
def Fin (P : Program) (fn : Func) (nbs : Nat) (σ : St) (r : PV) (nb bs' : List Cont) : Prop :=
  ∃ (τ : St) (L : List (Id × Nat)) (vals : List PV), Gh σ τ ∧ resL P τ fn.results.toList = some vals ∧ expR L (nz (resV vals)) = some r ∧ L.length = nb.length ∧ bs'.length = nbs ∧ (L.map (·.1)).Nodup ∧
    (∀ (j : Nat) (p : Id × Nat), L[j]? = some p → (τ.m p.1).ver = p.2 ∧ (τ.m p.1).live = nb[j]? ∧ ∀ k, p.1 ≠ .ext k) ∧ (nb.all flatC) = true ∧ (bs'.all flatC) = true ∧ (∀ k, k < nbs → τ.m (.ext k) = ⟨0, bs'[k]?⟩)
/-- The state in which a function begins. -/
def st0 (args : List PV) (bs : List Cont) : St := ⟨fun i => args.getD i .dead, m0 bs⟩
def codeOk (P : Program) (f : Nat) (fn : Func) (c : Code) (N : Nat) : Prop := P.funcs[f]? = some fn ∧ fn.body = some c ∧ dstOk N c = true ∧ fn.ntmps = N
theorem exp1_rel {d d' : Cx} {L : List (Id × Nat)} (hw : d'.w = d.w) (hmu : ∀ k, ¬ d.mu k → ¬ d'.mu k) (hL : ∀ (j : Nat) (p : Id × Nat), L[j]? = some p → d.ver p.1 = p.2 ∧ d'.ver (.loc j 0) = 1 ∧ d'.at_ (.loc j 0) = d.at_ p.1 ∧ d'.sz (.loc j 0) = d.sz p.1) {x y : PV} {u : Value} (h : RelV d x u) (hx : exp1 L x = some y) : RelV d' y u := by
  unfold exp1 at hx
  split at hx
  · rename_i b v n
    obtain ⟨j, hj, rfl⟩ := map_some hx
    obtain ⟨l1, l2, l3, l4⟩ := hL j _ (posOf_get hj)
    cases h with
    | own b v n u h1 hv h =>
      refine .own _ _ _ _ h1 (by rw [l2]; exact Nat.le_refl _) (fun _ => ?_)
      rw [l3]
      exact h l1.symm
  · rename_i b v i o
    obtain ⟨j, hj, rfl⟩ := map_some hx
    obtain ⟨l1, l2, l3, l4⟩ := hL j _ (posOf_get hj)
    cases h with
    | ptr b v i o u h1 hv h =>
      refine .ptr _ _ _ _ _ h1 (by rw [l2]; exact Nat.le_refl _) (fun _ => ?_)
      rw [l3, l4]
      exact h l1.symm
  · cases hx; exact RelV.flat (c := d) (d := d') hw hmu h (.inr ⟨_, _, rfl⟩)
  · split at hx
    · rename_i hs; cases hx; exact RelV.flat (c := d) (d := d') hw hmu h (.inl hs)
    · cases hx
theorem exp1L_get {L : List (Id × Nat)} : ∀ {xs ys : List PV}, exp1L L xs = some ys → ys.length = xs.length ∧ ∀ (i : Nat) (y : PV), ys[i]? = some y → ∃ x, xs[i]? = some x ∧ exp1 L x = some y := by
  intro xs
  induction xs with
  | nil => intro ys h; cases h; exact ⟨rfl, by simp⟩
  | cons x xs ih =>
    intro ys h
    obtain ⟨y, hy, h⟩ := bind_some h
    obtain ⟨zs, hz, rfl⟩ := map_some h
    obtain ⟨i1, i2⟩ := ih hz
    refine ⟨by simp [i1], fun i q hq => ?_⟩
    cases i with
    | zero => cases hq; exact ⟨x, rfl, hy⟩
    | succ i => simpa using i2 i q (by simpa using hq)
theorem expAL_get {L : List (Id × Nat)} : ∀ {xs ys : List PV}, expAL L xs = some ys → ys.length = xs.length ∧ ∀ (i : Nat) (y : PV), ys[i]? = some y → ∃ x, xs[i]? = some x ∧ expA L x = some y := by
  intro xs
  induction xs with
  | nil => intro ys h; cases h; exact ⟨rfl, by simp⟩
  | cons x xs ih =>
    intro ys h
    obtain ⟨y, hy, h⟩ := bind_some h
    obtain ⟨zs, hz, rfl⟩ := map_some h
    obtain ⟨i1, i2⟩ := ih hz
    refine ⟨by simp [i1], fun i q hq => ?_⟩
    cases i with
    | zero => cases hq; exact ⟨x, rfl, hy⟩
    | succ i => simpa using i2 i q (by simpa using hq)
theorem expA_rel {d d' : Cx} {L : List (Id × Nat)} (hw : d'.w = d.w) (hmu : ∀ k, ¬ d.mu k → ¬ d'.mu k) (hL : ∀ (j : Nat) (p : Id × Nat), L[j]? = some p → d.ver p.1 = p.2 ∧ d'.ver (.loc j 0) = 1 ∧ d'.at_ (.loc j 0) = d.at_ p.1 ∧ d'.sz (.loc j 0) = d.sz p.1) {x y : PV} {u : Value} (h : RelV d x u) (hx : expA L x = some y) : RelV d' y u := by
  cases x with
  | agg cs =>
    obtain ⟨ys, hy, rfl⟩ := map_some hx
    obtain ⟨i1, i2⟩ := exp1L_get hy
    cases h with
    | agg cs us hl h =>
      refine .agg _ us (i1.trans hl) (fun i q u hq hu => ?_)
      obtain ⟨x, hx, hxq⟩ := i2 i q hq
      exact exp1_rel hw hmu hL (h i x u hx hu) hxq
  | _ => exact exp1_rel hw hmu hL h hx
theorem expR_rel {d d' : Cx} {L : List (Id × Nat)} (hw : d'.w = d.w) (hmu : ∀ k, ¬ d.mu k → ¬ d'.mu k) (hL : ∀ (j : Nat) (p : Id × Nat), L[j]? = some p → d.ver p.1 = p.2 ∧ d'.ver (.loc j 0) = 1 ∧ d'.at_ (.loc j 0) = d.at_ p.1 ∧ d'.sz (.loc j 0) = d.sz p.1) {x y : PV} {u : Value} (h : RelV d x u) (hx : expR L x = some y) : RelV d' y u := by
  cases x with
  | tup cs =>
    obtain ⟨ys, hy, rfl⟩ := map_some hx
    obtain ⟨i1, i2⟩ := expAL_get hy
    cases h with
    | tup cs us hl h =>
      refine .tup _ us (i1.trans hl) (fun i q u hq hu => ?_)
      obtain ⟨x, hx, hxq⟩ := i2 i q hq
      exact expA_rel hw hmu hL (h i x u hx hu) hxq
  | _ => exact expA_rel hw hmu hL h hx
end
end Go.Proofs.Ev
namespace Go.Proofs.Ev
open Go Go.RowKit
set_option linter.unusedVariables false
set_option linter.unusedSimpArgs false
section
variable {P : Program} [Tbl P]
def resVal : List Value → Value
  | [u] => u
  | us => .tuple us.toArray
theorem run_results {w0 : World} {foot omut : Nat → Prop} {σ : St} {c : Cx} {fn : Func} {vals : List PV} {tmps : Array Value} (R : Rel w0 foot omut σ tmps c) (h : resL P σ fn.results.toList = some vals) (w : World) (hw : w = c.w) : ∃ us : List Value, (results fn tmps).run P w = .ok (resVal us) w ∧ RelV c (resV vals) (resVal us) := by
  subst hw
  have key : ∀ (l : List ResultVar) (vals : List PV), resL P σ l = some vals → ∃ us : List Value, (l.mapM fun (r : ResultVar) => (match r with
      | .tmp t => pure (tmps.getD t undef)
      | .cell a t => do loadVar t (← asAddr (tmps.getD a undef)) : Sem Value)).run P c.w = .ok us c.w ∧ us.length = vals.length ∧ ∀ (i : Nat) (x : PV) (u : Value), vals[i]? = some x → us[i]? = some u → RelV c x u := by
    intro l
    induction l with
    | nil => intro vals h; cases h; exact ⟨[], rfl, rfl, by simp⟩
    | cons x l ih =>
      intro vals h
      cases x with
      | tmp t =>
        obtain ⟨q, hq, rfl⟩ := map_some h
        obtain ⟨us, u1, u2, u3⟩ := ih q hq
        refine ⟨tmps.getD t undef :: us, ?_, by simp [u2], fun i x u hx hu => ?_⟩
        · rw [List.mapM_cons]
          simp only [Sem.run_bind, Sem.run_pure, Result.andThen_ok, u1]
        · cases i with
          | zero => cases hx; cases hu; exact R.tm t
          | succ i => exact u3 i x u (by simpa using hx) (by simpa using hu)
      | cell a t =>
        obtain ⟨y, hy, h⟩ := bind_some h
        obtain ⟨q, hq, rfl⟩ := map_some h
        obtain ⟨us, u1, u2, u3⟩ := ih q hq
        unfold cellV at hy
        split at hy
        · rename_i b v i o ht
          split at hy
          · rename_i e sz rs hl
            split at hy
            · rename_i hk
              obtain ⟨row, hrow, hy⟩ := bind_some hy
              have hi : i < rs.length := (List.getElem?_eq_some_iff.1 hrow).1
              obtain ⟨g, cap, cur, h1, h2, h3, h4, h5, h6, h7, h8, h9, h10, h11, h12⟩ := ptr_at R (ht ▸ R.tm a) hl hi
              obtain ⟨u, r1, r2⟩ := run_loadRow (c := c) hy hk.1 c.w rfl g (i * sz) (fun j y hy => by obtain ⟨u, p, q⟩ := h11 i row j y hrow hy; exact ⟨u, (cell_block h4).trans p, q⟩)
              have r1' : (loadVar t ⟨g, i * sz + o, none⟩).run P c.w = .ok u c.w := by simpa [Instr.loadAt, Instr.sureAddr] using r1
              have hA : (asAddr (tmps.getD a undef) : Sem Addr) = pure ⟨g, i * sz + o, none⟩ := by rw [h3]; rfl
              refine ⟨u :: us, ?_, by simp [u2], fun i x u' hx hu => ?_⟩
              · rw [List.mapM_cons]
                simp only [Sem.run_bind, Sem.run_pure, Result.andThen_ok, u1, hA, r1']
              · cases i with
                | zero => cases hx; cases hu; exact r2
                | succ i => exact u3 i x u' (by simpa using hx) (by simpa using hu)
            · cases hy
          · cases hy
        · cases hy
  obtain ⟨us, u1, u2, u3⟩ := key fn.results.toList vals h
  refine ⟨us, ?_, ?_⟩
  · unfold results
    rw [Array.mapM_eq_mapM_toList]
    rw [Sem.run_bind, Sem.run_map]
    erw [u1]
    simp only [Result.andThen_ok, Sem.run_pure]
    congr 1
    match us with
    | [] => simp [resVal]
    | [t] => simp [resVal]
    | t :: t' :: l => simp [resVal]
  · match us, vals, u2 with
    | [], [], _ => exact .tup [] [] rfl (by simp)
    | [u], [x], _ => exact u3 0 x u rfl rfl
    | u :: u' :: l, x :: x' :: l', hl => exact .tup _ _ (by simpa using hl.symm) u3
theorem den_of_wp (hmix : P.follows .mixedOrders = true) {f : Nat} {fn : Func} {code : Code} {N : Nat} (hc : codeOk P f fn code N) {args : List PV} {bs : List Cont} {r : PV} {nb bs' : List Cont} (hn : args.length ≤ N)
    (h : wpC (StepE P) code (fun e σ => match e with | .normal => Fin P fn bs.length σ r nb bs' | .ret => Fin P fn bs.length σ r nb bs' | _ => False) (st0 args bs)) : Den P f args bs r nb bs' := by
  obtain ⟨hf, hb, hd, hN⟩ := hc
  intro us foot omut c hT hbase hlen hargs R
  refine calls_of_wp hf hb ?_
  have hsz : us.toArray.size = us.length := by simp
  have hR : Rel c.w foot omut (st0 args bs) (us.toArray ++ Array.replicate (fn.ntmps - us.toArray.size) undef) c := by
    refine ⟨fun i => ?_, R.ver, R.mem, R.mt, R.inj, R.om, R.fr, R.bs, R.fb, R.bw⟩
    show RelV c (args.getD i .dead) _
    by_cases hi : i < us.length
    · have hi' : i < args.length := by omega
      have e1 : args.getD i .dead = args[i] := by simp [List.getD_eq_getElem?_getD, hi']
      have e2 : (us.toArray ++ Array.replicate (fn.ntmps - us.toArray.size) undef).getD i undef = us[i] := by
        rw [Array.getD_eq_getD_getElem?, Array.getElem?_append_left (by simpa using hi)]
        simp [hi]
      rw [e1, e2]
      exact hargs i _ _ (List.getElem?_eq_getElem hi') (List.getElem?_eq_getElem hi)
    · have e1 : args.getD i .dead = .dead := by
        rw [List.getD_eq_getElem?_getD, List.getElem?_eq_none (by omega)]; rfl
      rw [e1]
      exact .dead _
  have hwp := wpC_sound (stepE_good hT (P := P) (w0 := c.w) (foot := foot) (omut := omut) (N := N)) hmix (base := c.base) (ds := []) c code hd _ _ h { tmps := us.toArray ++ Array.replicate (fn.ntmps - us.toArray.size) undef, defers := [] } c hR (Cx.le.refl c) (by simp; omega) rfl rfl
  refine wp_mono hwp ?_
  rintro e a w' ⟨σ, c1, hw1, hle1, hq, R1, hN1, hb1, hds1⟩
  subst hw1
  have hfin : Fin P fn bs.length σ r nb bs' → bodyPost P fn (fun e w' => ∃ u d, e = .returned u ∧ d.w = w' ∧ d.base = c.base ∧ c.le d ∧ RelV d r u ∧ Rel c.w foot omut (stM (m1 bs' nb)) #[] d) .ret a c1.w := by
    rintro ⟨τ, L, vals, hg, t1, t2, t3, t4, t5, t6, t7, t8, t9⟩
    obtain ⟨c2, f1, f2, f3, R2⟩ := hg _ _ _ _ _ R1
    have hle2 : c.le c2 := hle1.trans f3
    have hb2 : c2.base = c.base := f2.trans hb1
    obtain ⟨us2, hrun, hval⟩ := run_results R2 t1 c1.w f1.symm
    replace hval := nz_rel hval
    refine ⟨hds1, _, hrun, ?_⟩
    generalize resVal us2 = u at hval ⊢
    let atf : Id → Option (Nat × Nat) := fun b => match b with
      | .ext k => c.at_ (.ext k)
      | .loc j 0 => (L[j]?).bind fun p => c2.at_ p.1
      | .loc _ (_ + 1) => none
    let szf : Id → Nat := fun b => match b with
      | .ext k => c.sz (.ext k)
      | .loc j 0 => match L[j]? with
        | some p => c2.sz p.1
        | none => 0
      | .loc _ (_ + 1) => 0
    let verf : Id → Nat := fun b => match b with
      | .ext _ => 0
      | .loc _ _ => 1
    let m' := m1 bs' nb
    let d : Cx := { w := c2.w, base := c.base, mu := fun k => omut k ∨ ∃ b x cap, (m' b).live = some x ∧ atf b = some (k, cap), at_ := atf, sz := szf, ver := verf }
    have hLk : ∀ (j : Nat) (y : Cont), nb[j]? = some y → ∃ p, L[j]? = some p ∧ (τ.m p.1).live = some y ∧ atf (.loc j 0) = c2.at_ p.1 ∧ szf (.loc j 0) = c2.sz p.1 := by
      intro j y hy
      have hj : j < L.length := by rw [t3]; exact (List.getElem?_eq_some_iff.1 hy).1
      have hp : L[j]? = some L[j] := List.getElem?_eq_getElem hj
      refine ⟨L[j], hp, by rw [(t6 j _ hp).2.1]; exact hy, by simp [atf, hp], by simp [szf, hp]⟩
    have hEk : ∀ (k : Nat) (y : Cont), bs'[k]? = some y → (τ.m (.ext k)).live = some y ∧ c2.at_ (.ext k) = c.at_ (.ext k) ∧ c2.sz (.ext k) = c.sz (.ext k) := by
      intro k y hy
      have hk : k < bs.length := by rw [← t4]; exact (List.getElem?_eq_some_iff.1 hy).1
      have hv : c.ver (.ext k) = c2.ver (.ext k) := by rw [R2.ver, t9 k hk, hR.ver]; rfl
      exact ⟨by rw [t9 k hk]; exact hy, hle2.same (.ext k) hv⟩
    have hmud : ∀ k, d.mu k → c2.mu k := by
      intro k hk
      refine (R2.mt k).2 ?_
      rcases hk with ho | ⟨b, x, cap, h1, h2⟩
      · exact .inl ho
      · match b, h1, h2 with
        | .ext j, h1, h2 =>
          obtain ⟨e1, e2, e3⟩ := hEk j x h1
          exact .inr ⟨.ext j, x, cap, e1, e2.trans h2⟩
        | .loc j 0, h1, h2 =>
          obtain ⟨p, e1, e2, e3, e4⟩ := hLk j x h1
          exact .inr ⟨p.1, x, cap, e2, e3.symm.trans h2⟩
        | .loc j (i + 1), h1, h2 => cases h1
    have hver0 : ∀ b, c.ver b = 0 := fun b => by rw [hR.ver b]; cases b <;> rfl
    have hled : c.le d := by
      refine ⟨rfl, hle2.size, fun k hk hm => ?_, fun b => by rw [hver0]; exact Nat.zero_le _, fun b hb => ?_⟩
      · obtain ⟨k1, k2⟩ := hle2.kept k hk hm
        exact ⟨fun h => k1 (hmud k h), k2⟩
      · rw [hver0] at hb
        cases b with
        | ext k => exact ⟨rfl, rfl⟩
        | loc n j => simp [d, verf] at hb
    refine ⟨u, d, rfl, f1, rfl, hled, ?_, ?_⟩
    · refine expR_rel (d := c2) (d' := d) rfl (fun k hk hk' => hk (hmud k hk')) (fun j p hp => ?_) hval t2
      refine ⟨(R2.ver p.1).trans (t6 j p hp).1, rfl, by simp [d, atf, hp], by simp [d, szf, hp]⟩
    · constructor
      · exact fun i => .dead _
      · intro b
        match b with
        | .ext k => rfl
        | .loc j 0 => rfl
        | .loc j (i + 1) => rfl
      · intro b x hx
        match b, hx with
        | .ext k, hx =>
          have hx' : bs'[k]? = some x := hx
          obtain ⟨e1, e2, e3⟩ := hEk k x hx'
          have hB := R2.mem _ _ e1
          exact hB.move (List.all_eq_true.1 t8 x (List.mem_of_getElem? hx')) (show d.at_ (.ext k) = _ from e2.symm) (show d.sz (.ext k) = _ from e3.symm) rfl (fun k hk hk' => hk (hmud k hk')) (fun g cap ha => by have := (hB.lt ha).2; rw [hb2] at this; exact this)
        | .loc j 0, hx =>
          have hx' : nb[j]? = some x := hx
          obtain ⟨p, e1, e2, e3, e4⟩ := hLk j x hx'
          have hB := R2.mem _ _ e2
          exact hB.move (List.all_eq_true.1 t7 x (List.mem_of_getElem? hx')) e3 e4 rfl (fun k hk hk' => hk (hmud k hk')) (fun g cap ha => by have := (hB.lt ha).2; rw [hb2] at this; exact this)
        | .loc j (i + 1), hx => cases hx
      · exact fun k => Iff.rfl
      · intro b b' x x' g cap cap' h1 h2 h3 h4
        have hone : ∀ (b : Id) (x : Cont) (cap : Nat), (m' b).live = some x → atf b = some (g, cap) → ∃ q, (τ.m q).live = some x ∧ c2.at_ q = some (g, cap) ∧ ((∃ k, b = .ext k ∧ q = .ext k) ∨ ∃ j p, b = .loc j 0 ∧ L[j]? = some p ∧ q = p.1) := by
          intro b x cap h1 h3
          match b, h1, h3 with
          | .ext k, h1, h3 =>
            obtain ⟨e1, e2, e3⟩ := hEk k x h1
            exact ⟨.ext k, e1, e2.trans h3, .inl ⟨k, rfl, rfl⟩⟩
          | .loc j 0, h1, h3 =>
            obtain ⟨p, e1, e2, e3, e4⟩ := hLk j x h1
            exact ⟨p.1, e2, e3.symm.trans h3, .inr ⟨j, p, rfl, e1, rfl⟩⟩
          | .loc j (i + 1), h1, h3 => cases h1
        obtain ⟨q, q1, q2, q3⟩ := hone b x cap h1 h3
        obtain ⟨q', r1, r2, r3⟩ := hone b' x' cap' h2 h4
        have he := R2.inj q q' x x' g cap cap' q1 r1 q2 r2
        rcases q3 with ⟨k, rfl, rfl⟩ | ⟨j, p, rfl, hp, rfl⟩
        · rcases r3 with ⟨k', rfl, rfl⟩ | ⟨j', p', rfl, hp', rfl⟩
          · exact he
          · exact absurd he.symm ((t6 j' p' hp').2.2 k)
        · rcases r3 with ⟨k', rfl, rfl⟩ | ⟨j', p', rfl, hp', rfl⟩
          · exact absurd he ((t6 j p hp).2.2 k')
          · have hj : j < L.length := (List.getElem?_eq_some_iff.1 hp).1
            have hj' : j' < L.length := (List.getElem?_eq_some_iff.1 hp').1
            have h5 : (L.map (·.1))[j]'(by simpa using hj) = (L.map (·.1))[j']'(by simpa using hj') := by
              rw [List.getElem?_eq_getElem hj] at hp
              rw [List.getElem?_eq_getElem hj'] at hp'
              simp [Option.some.inj hp, Option.some.inj hp', he]
            rw [nodup_inj t5 (by simpa using hj) (by simpa using hj') h5]
      · exact R.om
      · have := R2.fr
        rw [hb2] at this
        exact this
      · have := R2.bs
        rw [hb2] at this
        exact this
      · exact R.fb
      · exact R.bw
  cases e with
  | normal => exact hfin hq
  | ret => exact hfin hq
  | _ => exact hq.elim
end
end Go.Proofs.Ev
namespace Go.Proofs.Ev
open Go Go.RowKit
set_option linter.unusedVariables false
set_option linter.unusedSimpArgs false
/-- What is still to be done. -/
inductive It where
  | c (code : Code)
  | blk (id : Nat)
  | reg (ops rest : List Oper)
  | drw (ops rest : List Oper) (log : List (List Id × List Id))
  | inv (J : St → Prop)
mutual
def Run (P : Program) [Tbl P] (Q : St → Prop) : List It → St → Prop
  | [], σ => Q σ
  | .c code :: k, σ => wpC (StepE P) code (fun e τ => match e with
    | .normal => Run P Q k τ
    | .ret => Q τ
    | .exit id => Out P Q id k τ
    | _ => False) σ
  | .blk _ :: k, σ => Run P Q k σ
  | .reg ops rest :: k, σ => wpF (StepE P) ops rest σ (fun τ => Run P Q k τ)
  | .drw ops rest log :: k, σ => wpD (StepE P) ops rest log σ (fun l τ => okLog ops l ∧ Run P Q k τ)
  | .inv J :: _, σ => J σ
def Out (P : Program) [Tbl P] (Q : St → Prop) (id : Nat) : List It → St → Prop
  | [], _ => False
  | .blk j :: k, σ => if j = id then Run P Q k σ else Out P Q id k σ
  | _ :: k, σ => Out P Q id k σ
end
section
variable {P : Program} [Tbl P] {Q : St → Prop} {k : List It} {σ : St}
theorem Run_nil : Run P Q [] σ = Q σ := by simp only [Run]
theorem Run_skip : Run P Q (.c .skip :: k) σ = Run P Q k σ := by simp only [Run, wpC]
theorem Run_label {l : Nat} : Run P Q (.c (.label l) :: k) σ = Run P Q k σ := by simp only [Run, wpC]
theorem Run_ret : Run P Q (.c .ret :: k) σ = Q σ := by simp only [Run, wpC]
theorem Run_exit {id : Nat} : Run P Q (.c (.exit id) :: k) σ = Out P Q id k σ := by simp only [Run, wpC]
theorem Run_blk {id : Nat} : Run P Q (.blk id :: k) σ = Run P Q k σ := by simp only [Run]
theorem Run_inv {J : St → Prop} : Run P Q (.inv J :: k) σ = J σ := by simp only [Run]
theorem Out_blk {id j : Nat} : Out P Q id (.blk j :: k) σ = if j = id then Run P Q k σ else Out P Q id k σ := by simp only [Out]
theorem Out_c {id : Nat} {c : Code} : Out P Q id (.c c :: k) σ = Out P Q id k σ := by simp only [Out]
theorem Out_inv {id : Nat} {J : St → Prop} : Out P Q id (.inv J :: k) σ = Out P Q id k σ := by simp only [Out]
theorem Run_seq {a b : Code} : Run P Q (.c (.seq a b) :: k) σ = Run P Q (.c a :: .c b :: k) σ := by
  simp only [Run, wpC]
  congr 1
  funext e τ
  cases e <;> simp only [Out]
theorem Run_block {id : Nat} {c : Code} : Run P Q (.c (.block id c) :: k) σ = Run P Q (.c c :: .blk id :: k) σ := by
  simp only [Run, wpC]
  congr 1
  funext e τ
  cases e with
  | exit j =>
    simp only [Out]
    by_cases h : j = id
    · rw [if_pos h, if_pos h.symm]
    · rw [if_neg h, if_neg (Ne.symm h)]
  | _ => rfl
theorem Run_scope {c : Code} : Run P Q (.c (.scope c) :: k) σ = Run P Q (.c c :: k) σ := by
  simp only [Run, wpC]
  congr 1
  funext e τ
  cases e <;> rfl
theorem Run_cond {x : Operand} {a b : Code} {t : Bool} (h : σ.ev x = .bool t) : Run P Q (.c (.cond x a b) :: k) σ = if t = true then Run P Q (.c a :: k) σ else Run P Q (.c b :: k) σ := by
  simp only [Run, wpC]
  rw [h]
  simp only [PV.bool.injEq, exists_eq_left']
theorem Run_region {id : Nat} {ops : Array Oper} : Run P Q (.c (.region id ops false) :: k) σ = Run P Q (.reg ops.toList ops.toList :: k) σ := by
  simp only [Run, wpC]
theorem Run_draw {id : Nat} {ops : Array Oper} (fz : List Id) (hs : statOk ops.toList = true) (h : Run P Q (.drw ops.toList ops.toList [] :: k) (σ.frzL fz)) : Run P Q (.c (.region id ops true) :: k) σ := by
  simp only [Run, wpC] at h ⊢
  exact ⟨hs, _, Gh.frz σ fz, h⟩
theorem Run_reg_nil {ops : List Oper} : Run P Q (.reg ops [] :: k) σ = Run P Q k σ := by simp only [Run, wpF]
theorem Run_drw_nil {ops : List Oper} {log : List (List Id × List Id)} (h : okLog ops log) : Run P Q (.drw ops [] log :: k) σ = Run P Q k σ := by
  simp only [Run, wpD]
  exact propext ⟨fun h => h.2, fun h' => ⟨h, h'⟩⟩
theorem Run_op {ops os : List Oper} {o : Oper} {e : Eff} (hg : wantS ops σ o = some true) (h : opF P σ o = some e) (hr : Run P Q (.reg ops os :: k) (σ.app o.dst e)) : Run P Q (.reg ops (o :: os) :: k) σ := by
  simp only [Run, wpF] at hr ⊢
  refine ⟨σ, e, Gh.refl σ, .inl ⟨hg, ?_⟩, hr⟩
  show StepE P σ o e
  unfold StepE
  split
  · rename_i f args ts hop
    rw [opF] at h
    simp only [hop] at h
    cases h
  · exact .inl ⟨e, h, .inl rfl⟩
theorem Run_opz {ops os : List Oper} {o : Oper} {e : Eff} (hg : wantS ops σ o = some true) (h : opF P σ o = some e) (hr : Run P Q (.reg ops os :: k) (σ.app o.dst ⟨nzA e.v, e.lk, e.wr⟩)) : Run P Q (.reg ops (o :: os) :: k) σ := by
  simp only [Run, wpF] at hr ⊢
  refine ⟨σ, _, Gh.refl σ, .inl ⟨hg, ?_⟩, hr⟩
  show StepE P σ o _
  unfold StepE
  split
  · rename_i f args ts hop
    rw [opF] at h
    simp only [hop] at h
    cases h
  · exact .inl ⟨e, h, .inr rfl⟩
theorem Run_no {ops os : List Oper} {o : Oper} (hg : wantS ops σ o = some false) (hr : Run P Q (.reg ops os :: k) (σ.app o.dst ⟨.tup [], [], []⟩)) : Run P Q (.reg ops (o :: os) :: k) σ := by
  simp only [Run, wpF] at hr ⊢
  exact ⟨σ, _, Gh.refl σ, .inr ⟨hg, rfl⟩, hr⟩
theorem Run_dop {ops os : List Oper} {o : Oper} {e : Eff} {log : List (List Id × List Id)} (hg : wantS ops σ o = some true) (h : opF P σ o = some e) (hr : Run P Q (.drw ops os (log ++ [(refsOf σ o, e.wr.map (·.1))]) :: k) (σ.app o.dst e)) : Run P Q (.drw ops (o :: os) log :: k) σ := by
  simp only [Run, wpD] at hr ⊢
  refine ⟨e, .inl ⟨hg, ?_⟩, hr⟩
  show StepE P σ o e
  unfold StepE
  split
  · rename_i f args ts hop
    rw [opF] at h
    simp only [hop] at h
    cases h
  · exact .inl ⟨e, h, .inl rfl⟩
theorem Run_dno {ops os : List Oper} {o : Oper} {log : List (List Id × List Id)} (hg : wantS ops σ o = some false) (hr : Run P Q (.drw ops os (log ++ [(refsOf σ o, [])]) :: k) (σ.app o.dst ⟨.tup [], [], []⟩)) : Run P Q (.drw ops (o :: os) log :: k) σ := by
  simp only [Run, wpD] at hr ⊢
  exact ⟨_, .inr ⟨hg, rfl⟩, hr⟩
theorem Run_call {ops os : List Oper} {o : Oper} {e : Eff} (fz : List Id) {f : Operand} {args : Array Operand} {ts : Array Nat} {g : Nat} {caps : List PV} (hop : o.op = .call { callee := .value f, args := args, argTypes := ts }) (hg : wantS ops (σ.frzL fz) o = some true) (hf : (σ.frzL fz).ev f = .fn g caps)
    (h : CallE P (σ.frzL fz) (o.dst.getD 0) g (args.toList.map (σ.frzL fz).ev ++ caps) e) (hr : Run P Q (.reg ops os :: k) ((σ.frzL fz).app o.dst e)) : Run P Q (.reg ops (o :: os) :: k) σ := by
  simp only [Run, wpF] at hr ⊢
  refine ⟨σ.frzL fz, e, Gh.frz σ fz, .inl ⟨hg, ?_⟩, hr⟩
  show StepE P _ o e
  unfold StepE
  rw [hop]
  simp only
  rw [hf]
  exact .inl h
theorem Run_dcall {ops os : List Oper} {o : Oper} {e : Eff} {log : List (List Id × List Id)} {f : Operand} {args : Array Operand} {ts : Array Nat} {g : Nat} {caps : List PV} (hop : o.op = .call { callee := .value f, args := args, argTypes := ts }) (hg : wantS ops σ o = some true) (hf : σ.ev f = .fn g caps)
    (h : CallE P σ (o.dst.getD 0) g (args.toList.map σ.ev ++ caps) e) (hr : Run P Q (.drw ops os (log ++ [(refsOf σ o, e.wr.map (·.1))]) :: k) (σ.app o.dst e)) : Run P Q (.drw ops (o :: os) log :: k) σ := by
  simp only [Run, wpD] at hr ⊢
  refine ⟨e, .inl ⟨hg, ?_⟩, hr⟩
  show StepE P _ o e
  unfold StepE
  rw [hop]
  simp only
  rw [hf]
  exact .inl h
theorem Run_loop {c : Code} (I : Nat → St → Prop) (n : Nat) (h0 : I n σ) (hr : ∀ n σ, I n σ → Run P Q (.c c :: .inv (fun τ => ∃ m, m < n ∧ I m τ) :: k) σ) : Run P Q (.c (.loop c) :: k) σ := by
  simp only [Run, wpC]
  refine ⟨I, n, h0, fun n σ h => ?_⟩
  have := hr n σ h
  simp only [Run] at this
  refine cast ?_ this
  congr 1
  funext e τ
  cases e <;> simp only [Out]
/-- A function's contract, from the walk through its text. -/
theorem den_run (hmix : P.follows .mixedOrders = true) {f : Nat} {fn : Func} {code : Code} {N : Nat} (hc : codeOk P f fn code N) {args : List PV} {bs : List Cont} {r : PV} {nb bs' : List Cont} (hn : args.length ≤ N)
    (h : Run P (fun σ => Fin P fn bs.length σ r nb bs') [.c code] (st0 args bs)) : Den P f args bs r nb bs' := by
  refine den_of_wp hmix hc hn ?_
  simp only [Run] at h
  refine cast ?_ h
  congr 1
  funext e τ
  cases e <;> simp only [Out]
end
end Go.Proofs.Ev
namespace Go.Proofs.Ev
open Go Go.RowKit
set_option linter.unusedVariables false
set_option linter.unusedSimpArgs false
def bodyOf (fn : Func) : Code := match fn.body with | some c => c | none => .skip
/-- The next state, where the operation is reckoned. -/
def nxt (P : Program) (ops : List Oper) (σ : St) (o : Oper) : Option Eff :=
  match wantS ops σ o with
  | some true => opF P σ o
  | some false => some ⟨.tup [], [], []⟩
  | none => none
section
variable {P : Program} [Tbl P] {Q : St → Prop} {k : List It} {σ : St}
theorem Run_nxt {ops os : List Oper} {o : Oper} {e : Eff} (h : nxt P ops σ o = some e) (hr : Run P Q (.reg ops os :: k) (σ.app o.dst e)) : Run P Q (.reg ops (o :: os) :: k) σ := by
  unfold nxt at h
  split at h
  · rename_i hg; exact Run_op hg h hr
  · rename_i hg; cases h; exact Run_no hg hr
  · cases h
theorem Run_dnxt {ops os : List Oper} {o : Oper} {e : Eff} {log : List (List Id × List Id)} (h : nxt P ops σ o = some e) {r : List Id} (hr1 : refsOf σ o = r) (hr : Run P Q (.drw ops os (log ++ [(r, e.wr.map (·.1))]) :: k) (σ.app o.dst e)) : Run P Q (.drw ops (o :: os) log :: k) σ := by
  subst hr1
  unfold nxt at h
  split at h
  · rename_i hg; exact Run_dop hg h hr
  · rename_i hg; cases h; exact Run_dno hg hr
  · cases h
/-- A function's end, its results' slots given. -/
def FinT (P : Program) (ts : List ResultVar) (nbs : Nat) (σ : St) (r : PV) (nb bs' : List Cont) : Prop :=
  ∃ (τ : St) (L : List (Id × Nat)) (vals : List PV), Gh σ τ ∧ resL P τ ts = some vals ∧ expR L (nz (resV vals)) = some r ∧ L.length = nb.length ∧ bs'.length = nbs ∧ (L.map (·.1)).Nodup ∧
    (∀ (j : Nat) (p : Id × Nat), L[j]? = some p → (τ.m p.1).ver = p.2 ∧ (τ.m p.1).live = nb[j]? ∧ ∀ k, p.1 ≠ .ext k) ∧ (nb.all flatC) = true ∧ (bs'.all flatC) = true ∧ (∀ k, k < nbs → τ.m (.ext k) = ⟨0, bs'[k]?⟩)
theorem den_walk (hmix : P.follows .mixedOrders = true) {f : Nat} {fn : Func} {N : Nat} (hf : P.funcs[f]? = some fn) (hb : fn.body.isSome = true) (hd : dstOk N (bodyOf fn) = true) (hN : fn.ntmps = N) (ts : List ResultVar) (hts : fn.results.toList = ts) {args : List PV} {bs : List Cont} {r : PV} {nb bs' : List Cont} (hn : args.length ≤ N)
    (h : Run P (fun σ => FinT P ts bs.length σ r nb bs') [.c (bodyOf fn)] (st0 args bs)) : Den P f args bs r nb bs' := by
  have hbo : fn.body = some (bodyOf fn) := by
    unfold bodyOf
    cases hq : fn.body with
    | none => rw [hq] at hb; cases hb
    | some c => rfl
  refine den_run hmix ⟨hf, hbo, hd, hN⟩ hn ?_
  have : (fun σ => FinT P ts bs.length σ r nb bs') = (fun σ => Fin P fn bs.length σ r nb bs') := by
    subst hts
    rfl
  rw [this] at h
  exact h
/-- The end of a function that answers plain values and hands out no blocks. -/
theorem FinT.plain {ts : List ResultVar} {vals : List PV} {r : PV} (hv : resL P σ ts = some vals) (h : expR [] (nz (resV vals)) = some r) : FinT P ts 0 σ r [] [] :=
  ⟨σ, [], vals, Gh.refl σ, hv, h, rfl, rfl, List.nodup_nil, by simp, rfl, rfl, by simp⟩
end
@[go_sem] theorem app_t {σ : St} {d : Option Nat} {e : Eff} {i : Nat} : (σ.app d e).t i = if d = some i then e.v else σ.t i := by
  unfold St.app
  cases d with
  | none => simp
  | some d =>
    simp only [upd, Option.some.injEq]
    by_cases h : i = d
    · rw [if_pos h, if_pos h.symm]
    · rw [if_neg h, if_neg (Ne.symm h)]
@[go_sem] theorem app_m0 {σ : St} {d : Option Nat} {v : PV} {lk : List Id} {b : Id} : (σ.app d ⟨v, lk, []⟩).m b = σ.m b := rfl
@[go_sem] theorem app_m1 {σ : St} {d : Option Nat} {v : PV} {lk : List Id} {p : Id × Blk} {b : Id} : (σ.app d ⟨v, lk, [p]⟩).m b = if b = p.1 then p.2 else σ.m b := rfl
@[go_sem] theorem app_m2 {σ : St} {d : Option Nat} {v : PV} {lk : List Id} {p q : Id × Blk} {b : Id} : (σ.app d ⟨v, lk, [p, q]⟩).m b = if b = q.1 then q.2 else if b = p.1 then p.2 else σ.m b := rfl
@[go_sem] theorem st0_t {args : List PV} {bs : List Cont} {i : Nat} : (st0 args bs).t i = args.getD i .dead := rfl
@[go_sem] theorem st0_ext {args : List PV} {bs : List Cont} {k : Nat} : (st0 args bs).m (.ext k) = ⟨0, bs[k]?⟩ := rfl
@[go_sem] theorem st0_loc {args : List PV} {bs : List Cont} {n j : Nat} : (st0 args bs).m (.loc n j) = ⟨0, none⟩ := rfl
attribute [go_sem] opF nxt wantS.eq_def St.ev.eq_def pvc.eq_def pvz.eq_def look PV.cells.eq_def PV.one.eq_def PV.sf.eq_def mkB splice fillP fillR binI.eq_def binS.eq_def binF.eq_def binE.eq_def binG.eq_def eqB.eq_def eqFs eq1.eq_def lenP.eq_def sliceF.eq_def intOfP.eq_def boolOfP.eq_def loadRow loP.eq_def hiP.eq_def sliceOk lenOk rowsOk.eq_def ownLive.eq_def lkOf.eq_def isStr.eq_def
attribute [go_sem] Run_nil Run_skip Run_label Run_ret Run_exit Run_blk Run_inv Out_blk Out_c Out_inv Run_seq Run_block Run_scope Run_region Run_reg_nil
attribute [go_sem] Option.map_some Option.map_none Option.bind_some Option.bind_none if_true if_false Option.getD_some Option.getD_none Option.some.injEq List.getD_cons_zero List.getD_cons_succ List.getElem?_cons_zero List.getElem?_cons_succ reduceCtorEq PV.bool.injEq PV.int.injEq Id.loc.injEq Id.ext.injEq beq_self_eq_true Bool.true_beq Bool.false_beq Bool.not_true Bool.not_false List.toList_toArray
end Go.Proofs.Ev
namespace Go.Proofs.Ev
open Go Go.RowKit
set_option linter.unusedVariables false
set_option linter.unusedSimpArgs false
section
variable {P : Program} [Tbl P] {Q : St → Prop} {k : List It} {σ : St}
theorem Run_condT {x : Operand} {a b : Code} (h : σ.ev x = .bool true) (hr : Run P Q (.c a :: k) σ) : Run P Q (.c (.cond x a b) :: k) σ := by
  rw [Run_cond h, if_pos rfl]; exact hr
theorem Run_condF {x : Operand} {a b : Code} (h : σ.ev x = .bool false) (hr : Run P Q (.c b :: k) σ) : Run P Q (.c (.cond x a b) :: k) σ := by
  rw [Run_cond h, if_neg (by simp)]; exact hr
/-- What is plain through and through. -/
def sfA : PV → Bool
  | .agg cs => cs.all PV.sf
  | x => x.sf
def plainV : PV → Bool
  | .tup vs => vs.all sfA
  | x => sfA x
def plainA : PV → Bool
  | .fn _ caps => caps.all fun x => x.sf || (match x with | .rp _ _ => true | _ => false)
  | .agg cs => cs.all PV.sf
  | .rp _ _ => true
  | x => x.sf
theorem plainA_caps {g : Nat} {caps : List PV} (h : plainA (.fn g caps) = true) : caps.all plainA = true := by
  rw [List.all_eq_true]
  intro x hx
  have h1 := List.all_eq_true.1 h x hx
  cases x with
  | fn f cs =>
    cases cs with
    | nil => rfl
    | cons c cs => simp [PV.sf] at h1
  | _ => first | rfl | (simp [PV.sf] at h1)
theorem pass1_sf {ids : List (Id × Nat)} {x : PV} (h : (x.sf || (match x with | .rp _ _ => true | _ => false)) = true) : pass1 ids x = some x := by
  cases x <;> simp_all [PV.sf, pass1]
theorem pass1L_sf {ids : List (Id × Nat)} : ∀ {xs : List PV}, (xs.all fun x => x.sf || (match x with | .rp _ _ => true | _ => false)) = true → pass1L ids xs = some xs := by
  intro xs
  induction xs with
  | nil => intro _; rfl
  | cons x xs ih =>
    intro h
    rw [List.all_cons, Bool.and_eq_true] at h
    show (pass1 ids x).bind _ = _
    rw [pass1_sf h.1, Option.bind_some, ih h.2]
    rfl
theorem passV_plain {ids : List (Id × Nat)} {x : PV} (h : plainA x = true) : passV ids x = some x := by
  unfold plainA at h
  split at h
  · show (pass1L ids _).map _ = _
    rw [pass1L_sf h]; rfl
  · show (pass1L ids _).map _ = _
    rw [pass1L_sf (List.all_eq_true.2 fun x hx => by rw [List.all_eq_true.1 h x hx]; rfl)]; rfl
  · rfl
  · rename_i h1 h2 h3
    unfold passV
    split
    · exact absurd rfl (h1 _ _)
    · exact absurd rfl (h2 _)
    · exact pass1_sf (by rw [h]; rfl)
theorem passL_plain {ids : List (Id × Nat)} : ∀ {xs : List PV}, (xs.all plainA) = true → passL ids xs = some xs := by
  intro xs
  induction xs with
  | nil => intro _; rfl
  | cons x xs ih =>
    intro h
    rw [List.all_cons, Bool.and_eq_true] at h
    show (passV ids x).bind _ = _
    rw [passV_plain h.1, Option.bind_some, ih h.2]
    rfl
theorem ren1_sf {m : Id → Blk} {d : Nat} {x : PV} (h : x.sf = true) : ren1 m d x = x := by
  unfold ren1
  split <;> simp_all [PV.sf]
theorem res1_sf {n : Nat} {x : PV} (h : x.sf = true) : res1 n x = true := by
  unfold res1
  split <;> simp_all [PV.sf]
theorem map_self {α : Type} {f : α → α} : ∀ {l : List α}, (∀ x ∈ l, f x = x) → l.map f = l := by
  intro l
  induction l with
  | nil => intro _; rfl
  | cons a l ih => intro h; simp only [List.map_cons]; rw [h a (by simp), ih (fun x hx => h x (by simp [hx]))]
theorem renA_plain {m : Id → Blk} {d n : Nat} {x : PV} (h : sfA x = true) : renA m d x = x ∧ resA n x = true := by
  cases x with
  | agg cs =>
    constructor
    · show PV.agg _ = _
      rw [map_self (fun y hy => ren1_sf (List.all_eq_true.1 h y hy))]
    · exact List.all_eq_true.2 fun y hy => res1_sf (List.all_eq_true.1 h y hy)
  | _ => simp only [sfA] at h; exact ⟨ren1_sf (m := m) (d := d) h, res1_sf (n := n) h⟩
theorem renR_plain {m : Id → Blk} {d n : Nat} {x : PV} (h : plainV x = true) : renR m d x = x ∧ resR n x = true := by
  cases x with
  | tup vs =>
    have h' : ∀ v ∈ vs, sfA v = true := fun v hv => List.all_eq_true.1 h v hv
    constructor
    · show PV.tup _ = _
      rw [map_self (fun y hy => (renA_plain (n := n) (h' y hy)).1)]
    · exact List.all_eq_true.2 fun y hy => (renA_plain (m := m) (d := d) (h' y hy)).2
  | _ => simp only [plainV] at h; exact renA_plain (m := m) (d := d) (n := n) h
theorem CallE_plain {d g : Nat} {args : List PV} {r : PV} (hD : Den P g args [] r [] []) (hf : okF P g = true) (ha : (args.all plainA) = true) (hr : plainV r = true) : CallE P σ d g args ⟨r, [], []⟩ := by
  refine ⟨[], args, [], r, [], [], hf, passL_plain ha, rfl, rfl, by simp, by simp, rfl, rfl, rfl, (renR_plain (m := σ.m) (d := d) hr).2, hD, ?_⟩
  unfold callEff
  rw [(renR_plain (m := σ.m) (d := d) (n := 0) hr).1]
  rfl
/-- A call of a function whose contract is plain. -/
theorem Run_pcall {ops os : List Oper} {o : Oper} {f : Operand} {args : Array Operand} {ts : Array Nat} {g : Nat} {caps as : List PV} {r : PV} (fz : List Id) (hop : o.op = .call { callee := .value f, args := args, argTypes := ts }) (hg : wantS ops (σ.frzL fz) o = some true) (hf : (σ.frzL fz).ev f = .fn g caps)
    (has : args.toList.map (σ.frzL fz).ev ++ caps = as) (hD : Den P g as [] r [] []) (hok : okF P g = true) (ha : (as.all plainA) = true) (hpr : plainV r = true) (hr : Run P Q (.reg ops os :: k) ((σ.frzL fz).app o.dst ⟨r, [], []⟩)) : Run P Q (.reg ops (o :: os) :: k) σ := by
  subst has
  exact Run_call fz hop hg hf (CallE_plain hD hok ha hpr) hr
theorem Run_dpcall {ops os : List Oper} {o : Oper} {log : List (List Id × List Id)} {f : Operand} {args : Array Operand} {ts : Array Nat} {g : Nat} {caps as : List PV} {r : PV} {rf : List Id} (hop : o.op = .call { callee := .value f, args := args, argTypes := ts }) (hg : wantS ops σ o = some true) (hf : σ.ev f = .fn g caps)
    (has : args.toList.map σ.ev ++ caps = as) (hD : Den P g as [] r [] []) (hok : okF P g = true) (ha : (as.all plainA) = true) (hpr : plainV r = true) (hrf : refsOf σ o = rf) (hr : Run P Q (.drw ops os (log ++ [(rf, [])]) :: k) (σ.app o.dst ⟨r, [], []⟩)) : Run P Q (.drw ops (o :: os) log :: k) σ := by
  subst has
  subst hrf
  exact Run_dcall hop hg hf (CallE_plain hD hok ha hpr) hr
end
section
variable {a b : Int} {m n : Nat}
@[go_sem] theorem dlt_t (h : a < b) : decide (a < b) = true := decide_eq_true h
@[go_sem] theorem dlt_f (h : b ≤ a) : decide (a < b) = false := decide_eq_false (by omega)
@[go_sem] theorem dle_t (h : a ≤ b) : decide (a ≤ b) = true := decide_eq_true h
@[go_sem] theorem dle_f (h : b < a) : decide (a ≤ b) = false := decide_eq_false (by omega)
@[go_sem] theorem beq_t (h : a = b) : (a == b) = true := by simp [h]
@[go_sem] theorem beq_f (h : a ≠ b) : (a == b) = false := by simp [h]
@[go_sem] theorem bne_t (h : a ≠ b) : (a != b) = true := by simp [h]
@[go_sem] theorem bne_f (h : a = b) : (a != b) = false := by simp [h]
@[go_sem] theorem plt_t (h : a < b) : (a < b) = True := by simp [h]
@[go_sem] theorem plt_f (h : b ≤ a) : (a < b) = False := by simp; omega
@[go_sem] theorem ple_t (h : a ≤ b) : (a ≤ b) = True := by simp [h]
@[go_sem] theorem ple_f (h : b < a) : (a ≤ b) = False := by simp; omega
@[go_sem] theorem nlt_t (h : m < n) : (m < n) = True := by simp [h]
@[go_sem] theorem nlt_f (h : n ≤ m) : (m < n) = False := by simp; omega
@[go_sem] theorem nle_t (h : m ≤ n) : (m ≤ n) = True := by simp [h]
@[go_sem] theorem nle_f (h : n < m) : (m ≤ n) = False := by simp; omega
end
attribute [go_sem] IntWalk.i64_in IntWalk.u64_in IntWalk.i32_in IntWalk.u32_in IntWalk.u8_in Int.toNat_natCast Int.natCast_add Int.cast_ofNat_Int Int.natCast_zero List.length_map List.getElem?_map List.length_cons List.length_nil decide_true decide_false and_true true_and and_self and_false false_and List.take_zero List.drop_zero List.getElem?_cons_zero List.getElem?_cons_succ List.set_cons_zero List.set_cons_succ List.map_nil List.map_cons List.append_nil List.nil_append List.cons_append Bool.and_true Bool.true_and Bool.and_false Bool.false_and Bool.and_self List.all_cons List.all_nil
@[go_sem] theorem frzL_nil {σ : St} : σ.frzL [] = σ := rfl
end Go.Proofs.Ev
namespace Go.Proofs.Ev
open Go Go.RowKit
set_option linter.unusedVariables false
set_option linter.unusedSimpArgs false
def val1 : PV → Option Value
  | .int k n => some (.int k n)
  | .bool b => some (.bool b)
  | .str s => some (.string s)
  | .nils => some (.slice none 0 0)
  | .nili => some .nilIface
  | _ => none
def val1L : List PV → Option (List Value)
  | [] => some []
  | x :: l => (val1 x).bind fun y => (val1L l).map (y :: ·)
def valA : PV → Option Value
  | .agg cs => (val1L cs).map fun l => .agg l.toArray
  | x => val1 x
def valAL : List PV → Option (List Value)
  | [] => some []
  | x :: l => (valA x).bind fun y => (valAL l).map (y :: ·)
def valR : PV → Option Value
  | .tup vs => (valAL vs).map fun l => .tuple l.toArray
  | x => valA x
section
variable {P : Program} [Tbl P] {c : Cx}
theorem val1_det {x : PV} {u v : Value} (h : RelV c x u) (hv : val1 x = some v) : u = v := by
  cases h <;> simp_all [val1]
theorem val1_rel {x : PV} {v : Value} (hv : val1 x = some v) : RelV c x v := by
  cases x <;> simp [val1] at hv <;> subst hv
  · exact .int _ _
  · exact .bool _
  · exact .str _
  · exact .nils
  · exact .nili
theorem val1L_get : ∀ {xs : List PV} {us : List Value}, val1L xs = some us → xs.length = us.length ∧ ∀ (i : Nat) (x : PV) (u : Value), xs[i]? = some x → us[i]? = some u → val1 x = some u := by
  intro xs
  induction xs with
  | nil => intro us h; cases h; exact ⟨rfl, by simp⟩
  | cons x xs ih =>
    intro us h
    obtain ⟨y, hy, h⟩ := bind_some h
    obtain ⟨zs, hz, rfl⟩ := map_some h
    obtain ⟨i1, i2⟩ := ih hz
    refine ⟨by simp [i1], fun i q u hq hu => ?_⟩
    cases i with
    | zero => cases hq; cases hu; exact hy
    | succ i => exact i2 i q u (by simpa using hq) (by simpa using hu)
theorem valA_det {x : PV} {u v : Value} (h : RelV c x u) (hv : valA x = some v) : u = v := by
  cases x with
  | agg cs =>
    obtain ⟨l, hl, rfl⟩ := map_some hv
    obtain ⟨h1, h2⟩ := val1L_get hl
    cases h with
    | agg cs us hlen hr =>
      congr 1
      congr 1
      refine List.ext_getElem? (fun i => ?_)
      by_cases hi : i < cs.length
      · have a1 : us[i]? = some us[i] := List.getElem?_eq_getElem (by omega)
        have a2 : l[i]? = some l[i] := List.getElem?_eq_getElem (by omega)
        rw [a1, a2, val1_det (hr i _ _ (List.getElem?_eq_getElem hi) a1) (h2 i _ _ (List.getElem?_eq_getElem hi) a2)]
      · rw [List.getElem?_eq_none (by omega), List.getElem?_eq_none (by omega)]
  | _ => exact val1_det h hv
theorem valA_rel {x : PV} {v : Value} (hv : valA x = some v) : RelV c x v := by
  cases x with
  | agg cs =>
    obtain ⟨l, hl, rfl⟩ := map_some hv
    obtain ⟨h1, h2⟩ := val1L_get hl
    exact .agg cs l h1 (fun i x u hx hu => val1_rel (h2 i x u hx hu))
  | _ => exact val1_rel hv
theorem valAL_get : ∀ {xs : List PV} {us : List Value}, valAL xs = some us → xs.length = us.length ∧ ∀ (i : Nat) (x : PV) (u : Value), xs[i]? = some x → us[i]? = some u → valA x = some u := by
  intro xs
  induction xs with
  | nil => intro us h; cases h; exact ⟨rfl, by simp⟩
  | cons x xs ih =>
    intro us h
    obtain ⟨y, hy, h⟩ := bind_some h
    obtain ⟨zs, hz, rfl⟩ := map_some h
    obtain ⟨i1, i2⟩ := ih hz
    refine ⟨by simp [i1], fun i q u hq hu => ?_⟩
    cases i with
    | zero => cases hq; cases hu; exact hy
    | succ i => exact i2 i q u (by simpa using hq) (by simpa using hu)
theorem valR_rel {x : PV} {v : Value} (hv : valR x = some v) : RelV c x v := by
  cases x with
  | tup vs =>
    obtain ⟨l, hl, rfl⟩ := map_some hv
    obtain ⟨h1, h2⟩ := valAL_get hl
    exact .tup vs l h1 (fun i x u hx hu => valA_rel (h2 i x u hx hu))
  | _ => exact valA_rel hv
theorem valR_det {x : PV} {u v : Value} (h : RelV c x u) (hv : valR x = some v) : u = v := by
  cases x with
  | tup cs =>
    obtain ⟨l, hl, rfl⟩ := map_some hv
    obtain ⟨h1, h2⟩ := valAL_get hl
    cases h with
    | tup cs us hlen hr =>
      congr 1
      congr 1
      refine List.ext_getElem? (fun i => ?_)
      by_cases hi : i < cs.length
      · have a1 : us[i]? = some us[i] := List.getElem?_eq_getElem (by omega)
        have a2 : l[i]? = some l[i] := List.getElem?_eq_getElem (by omega)
        rw [a1, a2, valA_det (hr i _ _ (List.getElem?_eq_getElem hi) a1) (h2 i _ _ (List.getElem?_eq_getElem hi) a2)]
      · rw [List.getElem?_eq_none (by omega), List.getElem?_eq_none (by omega)]
  | _ => exact valA_det h hv
/-- A library's contract over plain values is one of ours. -/
theorem den_of_calls {f : Nat} {args : List PV} {us : List Value} {r : PV} {v : Value} (ha : valAL args = some us) (hr : valR r = some v)
    (hc : ∀ w, Tbl.T P w → Calls P f us.toArray w fun e w' => e = .returned v ∧ Below w.heap.size w w') : Den P f args [] r [] [] := by
  intro us' foot omut c hT hbase hlen hargs R
  obtain ⟨h1, h2⟩ := valAL_get ha
  have hus : us' = us := by
    refine List.ext_getElem? (fun i => ?_)
    by_cases hi : i < args.length
    · have a1 : us'[i]? = some us'[i] := List.getElem?_eq_getElem (by omega)
      have a2 : us[i]? = some us[i] := List.getElem?_eq_getElem (by omega)
      rw [a1, a2, valA_det (hargs i _ _ (List.getElem?_eq_getElem hi) a1) (h2 i _ _ (List.getElem?_eq_getElem hi) a2)]
    · rw [List.getElem?_eq_none (by omega), List.getElem?_eq_none (by omega)]
  subst hus
  refine Calls.mono (hc c.w (hT c.w (fun _ _ _ => rfl))) ?_
  rintro e w' ⟨rfl, hB⟩
  let d : Cx := { c with w := w', ver := fun b => match b with | .loc _ _ => 1 | .ext _ => 0 }
  have hv0 : ∀ b, c.ver b = 0 := fun b => by rw [R.ver b]; cases b <;> rfl
  have hle : c.le d := ⟨rfl, hB.size, fun k hk hm => ⟨hm, hB.block k hk⟩, fun b => by rw [hv0]; exact Nat.zero_le _, fun _ _ => ⟨rfl, rfl⟩⟩
  have hno : ∀ (b : Id) (x : Cont), ((stM (m1 [] [])).m b).live = some x → False := by
    intro b x h
    cases b with
    | ext k => simp [stM, m1] at h
    | loc j k => cases k <;> simp [stM, m1] at h
  have hno0 : ∀ (b : Id) (x : Cont), ((stM (m0 [])).m b).live = some x → False := by
    intro b x h
    cases b with
    | ext k => simp [stM, m0] at h
    | loc j k => simp [stM, m0] at h
  refine ⟨v, d, rfl, rfl, rfl, hle, valR_rel hr, ?_⟩
  refine ⟨fun i => .dead _, fun b => ?_, fun b x h => (hno b x h).elim, fun k => ⟨fun hk => ?_, fun hk => ?_⟩, fun b b' x x' g cap cap' h => (hno b x h).elim, R.om, ?_, ?_, R.fb, R.bw⟩
  · cases b with
    | ext k => rfl
    | loc j k => cases k <;> rfl
  · rcases (R.mt k).1 hk with h | ⟨b, x, cap, h, _⟩
    · exact .inl h
    · exact (hno0 b x h).elim
  · rcases hk with h | ⟨b, x, cap, h, _⟩
    · exact (R.mt k).2 (.inl h)
    · exact (hno b x h).elim
  · exact ⟨hB.os, hB.tape, hB.output, hB.size, fun k hk _ => hB.block k (Nat.lt_of_lt_of_le hk R.bs)⟩
  · exact Nat.le_trans R.bs hB.size
/-- The state of a world in which nothing of ours lies. -/
def cxW (w : World) : Cx := ⟨w, w.heap.size, fun _ => False, fun _ => none, fun _ => 0, fun _ => 0⟩
/-- A contract of ours, as a call from outside. -/
theorem calls_of_den {f : Nat} {args : List PV} {us : List Value} {r : PV} {v : Value} {w : World} (hD : Den P f args [] r [] []) (hr : valR r = some v) (hn : args.length = us.length) (ha : ∀ (i : Nat) (x : PV) (u : Value), args[i]? = some x → us[i]? = some u → RelV (cxW w) x u)
    (hT : ∀ w' : World, (∀ k, k < w.heap.size → w'.heap[k]? = w.heap[k]?) → Tbl.T P w') : Calls P f us.toArray w fun e w' => e = .returned v ∧ Below w.heap.size w w' := by
  have hR : Rel w (fun _ => False) (fun _ => False) (stM (m0 [])) #[] (cxW w) := by
    have hno0 : ∀ (b : Id) (x : Cont), ((stM (m0 [])).m b).live = some x → False := by
      intro b x h
      cases b with
      | ext k => simp [stM, m0] at h
      | loc j k => simp [stM, m0] at h
    refine ⟨fun i => .dead _, fun b => by cases b <;> rfl, fun b x h => (hno0 b x h).elim, fun k => ⟨fun hk => hk.elim, fun hk => ?_⟩, fun b b' x x' g cap cap' h => (hno0 b x h).elim, fun k hk => hk.elim, Fr.refl _ _ _, Nat.le_refl _, fun k hk => hk.elim, Nat.le_refl _⟩
    rcases hk with h | ⟨b, x, cap, h, _⟩
    · exact h.elim
    · exact (hno0 b x h).elim
  refine Calls.mono (hD us (fun _ => False) (fun _ => False) (cxW w) (fun w' h => hT w' (fun k hk => h k hk (fun e => e))) rfl hn ha hR) ?_
  rintro e w' ⟨u, d, rfl, rfl, hb, hle, hu, hRd⟩
  have hfr := hRd.fr.below
  rw [hb] at hfr
  exact ⟨by rw [valR_det hu hr], hfr⟩
end
end Go.Proofs.Ev
namespace Go.Proofs.Ev
open Go Go.RowKit
set_option linter.unusedVariables false
set_option linter.unusedSimpArgs false
section
variable {P : Program} [Tbl P] {Q : St → Prop} {k : List It} {σ : St}
/-- What needs no reckoning. -/
theorem RW : (∀ (P : Program) [Tbl P] (Q : St → Prop) (k : List It) (σ : St) (ops : List Oper), Run P Q (.reg ops [] :: k) σ = Run P Q k σ) ∧ (∀ (P : Program) [Tbl P] (Q : St → Prop) (k : List It) (σ : St), Run P Q (.c .skip :: k) σ = Run P Q k σ) ∧
    (∀ (P : Program) [Tbl P] (Q : St → Prop) (k : List It) (σ : St) (l : Nat), Run P Q (.c (.label l) :: k) σ = Run P Q k σ) ∧ (∀ (P : Program) [Tbl P] (Q : St → Prop) (k : List It) (σ : St), Run P Q (.c .ret :: k) σ = Q σ) ∧
    (∀ (P : Program) [Tbl P] (Q : St → Prop) (k : List It) (σ : St) (id : Nat), Run P Q (.c (.exit id) :: k) σ = Out P Q id k σ) ∧ (∀ (P : Program) [Tbl P] (Q : St → Prop) (k : List It) (σ : St) (id : Nat), Run P Q (.blk id :: k) σ = Run P Q k σ) ∧
    (∀ (P : Program) [Tbl P] (Q : St → Prop) (k : List It) (σ : St) (J : St → Prop), Run P Q (.inv J :: k) σ = J σ) ∧ (∀ (P : Program) [Tbl P] (Q : St → Prop) (k : List It) (σ : St) (id : Nat) (c : Code), Out P Q id (.c c :: k) σ = Out P Q id k σ) ∧
    (∀ (P : Program) [Tbl P] (Q : St → Prop) (k : List It) (σ : St) (id : Nat) (J : St → Prop), Out P Q id (.inv J :: k) σ = Out P Q id k σ) ∧ (∀ (P : Program) [Tbl P] (Q : St → Prop) (k : List It) (σ : St) (a b : Code), Run P Q (.c (.seq a b) :: k) σ = Run P Q (.c a :: .c b :: k) σ) ∧
    (∀ (P : Program) [Tbl P] (Q : St → Prop) (k : List It) (σ : St) (id : Nat) (c : Code), Run P Q (.c (.block id c) :: k) σ = Run P Q (.c c :: .blk id :: k) σ) ∧ (∀ (P : Program) [Tbl P] (Q : St → Prop) (k : List It) (σ : St) (c : Code), Run P Q (.c (.scope c) :: k) σ = Run P Q (.c c :: k) σ) ∧
    (∀ (P : Program) [Tbl P] (Q : St → Prop) (k : List It) (σ : St) (id : Nat) (ops : Array Oper), Run P Q (.c (.region id ops false) :: k) σ = Run P Q (.reg ops.toList ops.toList :: k) σ) ∧ (∀ (P : Program) [Tbl P] (Q : St → Prop) (k : List It) (σ : St), Run P Q [] σ = Q σ) ∧
    (∀ (P : Program) [Tbl P] (Q : St → Prop) (k : List It) (σ : St) (id : Nat), Out P Q id (.blk id :: k) σ = Run P Q k σ) :=
  ⟨fun _ _ _ _ _ _ => Run_reg_nil, fun _ _ _ _ _ => Run_skip, fun _ _ _ _ _ _ => Run_label, fun _ _ _ _ _ => Run_ret, fun _ _ _ _ _ _ => Run_exit, fun _ _ _ _ _ _ => Run_blk, fun _ _ _ _ _ _ => Run_inv, fun _ _ _ _ _ _ _ => Out_c, fun _ _ _ _ _ _ _ => Out_inv, fun _ _ _ _ _ _ _ => Run_seq, fun _ _ _ _ _ _ _ => Run_block, fun _ _ _ _ _ _ => Run_scope, fun _ _ _ _ _ _ _ => Run_region, fun _ _ _ _ _ => Run_nil, fun _ _ _ _ _ _ => by rw [Out_blk, if_pos rfl]⟩
theorem Out_ne {id j : Nat} (h : (j == id) = false) : Out P Q id (.blk j :: k) σ = Out P Q id k σ := by
  rw [Out_blk, if_neg (by simpa using h)]
theorem S1 {a b : Code} (h : Run P Q (.c a :: .c b :: k) σ) : Run P Q (.c (.seq a b) :: k) σ := by rw [Run_seq]; exact h
theorem S2 {id : Nat} {ops : Array Oper} (h : Run P Q (.reg ops.toList ops.toList :: k) σ) : Run P Q (.c (.region id ops false) :: k) σ := by rw [Run_region]; exact h
theorem S3 {ops : List Oper} (h : Run P Q k σ) : Run P Q (.reg ops [] :: k) σ := by rw [Run_reg_nil]; exact h
theorem S4 (h : Q σ) : Run P Q (.c .ret :: k) σ := by rw [Run_ret]; exact h
theorem S5 {id : Nat} {c : Code} (h : Run P Q (.c c :: .blk id :: k) σ) : Run P Q (.c (.block id c) :: k) σ := by rw [Run_block]; exact h
theorem S6 {id : Nat} (h : Run P Q k σ) : Run P Q (.blk id :: k) σ := by rw [Run_blk]; exact h
theorem S7 (h : Run P Q k σ) : Run P Q (.c .skip :: k) σ := by rw [Run_skip]; exact h
theorem S8 {id : Nat} (h : Out P Q id k σ) : Run P Q (.c (.exit id) :: k) σ := by rw [Run_exit]; exact h
theorem S9 {J : St → Prop} (h : J σ) : Run P Q (.inv J :: k) σ := by rw [Run_inv]; exact h
theorem SA {id : Nat} {c : Code} (h : Out P Q id k σ) : Out P Q id (.c c :: k) σ := by rw [Out_c]; exact h
theorem SB {id : Nat} (h : Run P Q k σ) : Out P Q id (.blk id :: k) σ := by rw [Out_blk, if_pos rfl]; exact h
theorem SC {id j : Nat} (h : Out P Q id k σ) (hn : (j == id) = false := by exact rfl) : Out P Q id (.blk j :: k) σ := by rw [Out_ne hn]; exact h
theorem SD {id : Nat} {J : St → Prop} (h : Out P Q id k σ) : Out P Q id (.inv J :: k) σ := by rw [Out_inv]; exact h
theorem SE (h : Q σ) : Run P Q [] σ := by rw [Run_nil]; exact h
theorem SF {c : Code} (h : Run P Q (.c c :: k) σ) : Run P Q (.c (.scope c) :: k) σ := by rw [Run_scope]; exact h
theorem SG {l : Nat} (h : Run P Q k σ) : Run P Q (.c (.label l) :: k) σ := by rw [Run_label]; exact h
/-- One operation. -/
theorem R1 {ops os : List Oper} {o : Oper} {e : Eff} {d : Option Nat} (hr : Run P Q (.reg ops os :: k) (σ.app d e))
    (hdst : o.dst = d := by first | exact (rfl : some _ = some _) | exact (rfl : none = none))
    (h : nxt P ops σ o = some e := by (simp (disch := omega) only [↓reduceIte, ↓nxt, ↓wantS.eq_def, ↓opF, ↓St.ev.eq_def, ↓app_t, ↓app_m0, ↓app_m1, ↓app_m2, go_sem, *, reduceIte, ite_true, ite_false, Nat.reduceEqDiff, Nat.reduceAdd, Nat.reduceSub, Nat.reduceMul, Nat.reduceLT, Nat.reduceLeDiff, Nat.reduceBEq, Int.reduceToNat, Int.reduceLT, Int.reduceLE, Int.reduceAdd, Int.reduceSub, Int.reduceNeg, Int.reduceBEq, Int.reduceEq, reduceCtorEq, List.take_succ_cons, List.take_nil, List.drop_succ_cons, List.drop_nil, ge_iff_le, gt_iff_lt]; first | done | exact rfl)) : Run P Q (.reg ops (o :: os) :: k) σ := Run_nxt h (hdst ▸ hr)
theorem RT {x : Operand} {a b : Code} (hr : Run P Q (.c a :: k) σ)
    (h : σ.ev x = .bool true := by (simp (disch := omega) only [↓reduceIte, ↓nxt, ↓wantS.eq_def, ↓opF, ↓St.ev.eq_def, ↓app_t, ↓app_m0, ↓app_m1, ↓app_m2, go_sem, *, reduceIte, ite_true, ite_false, Nat.reduceEqDiff, Nat.reduceAdd, Nat.reduceSub, Nat.reduceMul, Nat.reduceLT, Nat.reduceLeDiff, Nat.reduceBEq, Int.reduceToNat, Int.reduceLT, Int.reduceLE, Int.reduceAdd, Int.reduceSub, Int.reduceNeg, Int.reduceBEq, Int.reduceEq, reduceCtorEq, ge_iff_le, gt_iff_lt]; first | done | fail)) : Run P Q (.c (.cond x a b) :: k) σ := Run_condT h hr
theorem RF {x : Operand} {a b : Code} (hr : Run P Q (.c b :: k) σ)
    (h : σ.ev x = .bool false := by (simp (disch := omega) only [↓reduceIte, ↓nxt, ↓wantS.eq_def, ↓opF, ↓St.ev.eq_def, ↓app_t, ↓app_m0, ↓app_m1, ↓app_m2, go_sem, *, reduceIte, ite_true, ite_false, Nat.reduceEqDiff, Nat.reduceAdd, Nat.reduceSub, Nat.reduceMul, Nat.reduceLT, Nat.reduceLeDiff, Nat.reduceBEq, Int.reduceToNat, Int.reduceLT, Int.reduceLE, Int.reduceAdd, Int.reduceSub, Int.reduceNeg, Int.reduceBEq, Int.reduceEq, reduceCtorEq, ge_iff_le, gt_iff_lt]; first | done | fail)) : Run P Q (.c (.cond x a b) :: k) σ := Run_condF h hr
/-- Ahead of an operation: a block is no longer written. -/
theorem RZ (b : Id) {ops os : List Oper} {o : Oper} {fl : Bool} {e sz : Nat} {rs : List (List PV)} {v : Nat} (hr : Run P Q (.reg ops (o :: os) :: k) ⟨fun i => frzV b v rs (σ.t i), frzM σ.m b v rs⟩)
    (hl : σ.m b = ⟨v, some (.rows fl e sz rs)⟩ := by (simp (disch := omega) only [↓reduceIte, ↓nxt, ↓wantS.eq_def, ↓opF, ↓St.ev.eq_def, ↓app_t, ↓app_m0, ↓app_m1, ↓app_m2, go_sem, *, reduceIte, ite_true, ite_false, Nat.reduceEqDiff, Nat.reduceAdd, reduceCtorEq]; first | done | exact rfl))
    (hfl : fl = true ∨ (rs.all fun r => r.all PV.sf) = true := by first | exact .inl rfl | exact .inr rfl | (refine .inr ?_; simp only [go_sem, *]; first | done | fail)) : Run P Q (.reg ops (o :: os) :: k) σ := by
  have e1 : σ.frzL [b] = ⟨fun i => frzV b v rs (σ.t i), frzM σ.m b v rs⟩ := by
    show σ.frz b = _
    unfold St.frz
    rw [hl]
    simp only
    rw [if_pos hfl]
  rw [← e1] at hr
  simp only [Run, wpF] at hr ⊢
  obtain ⟨τ, e, hg, h1, h2⟩ := hr
  exact ⟨τ, e, (Gh.frz σ [b]).trans hg, h1, h2⟩
/-- What is read of a state. -/
theorem rd {a b : PV} (h : a = b := by (simp (disch := omega) only [↓reduceIte, ↓nxt, ↓wantS.eq_def, ↓opF, ↓St.ev.eq_def, ↓app_t, ↓app_m0, ↓app_m1, ↓app_m2, go_sem, *, reduceIte, ite_true, ite_false, Nat.reduceEqDiff, Nat.reduceAdd, Nat.reduceSub, Nat.reduceMul, Nat.reduceLT, Nat.reduceLeDiff, Nat.reduceBEq, Int.reduceToNat, Int.reduceLT, Int.reduceLE, Int.reduceAdd, Int.reduceSub, Int.reduceNeg, Int.reduceBEq, Int.reduceEq, reduceCtorEq, ge_iff_le, gt_iff_lt]; first | done | exact rfl)) : a = b := h
/-- What a block holds. -/
theorem rdm {a b : Blk} (h : a = b := by (simp (disch := omega) only [↓reduceIte, ↓nxt, ↓wantS.eq_def, ↓opF, ↓St.ev.eq_def, ↓app_t, ↓app_m0, ↓app_m1, ↓app_m2, go_sem, *, reduceIte, ite_true, ite_false, Nat.reduceEqDiff, Nat.reduceAdd, Nat.reduceSub, Nat.reduceMul, Nat.reduceLT, Nat.reduceLeDiff, Nat.reduceBEq, Int.reduceToNat, Int.reduceLT, Int.reduceLE, Int.reduceAdd, Int.reduceSub, Int.reduceNeg, Int.reduceBEq, Int.reduceEq, reduceCtorEq, ge_iff_le, gt_iff_lt]; first | done | exact rfl)) : a = b := h
/-- The end of a function that answers plain values. -/
theorem FE {ts : List ResultVar} {vals : List PV} {r : PV} (hv : resL P σ ts = some vals := by (simp (disch := omega) only [↓reduceIte, ↓nxt, ↓wantS.eq_def, ↓opF, ↓St.ev.eq_def, ↓app_t, ↓app_m0, ↓app_m1, ↓app_m2, go_sem, *, resL.eq_def, cellV, reduceIte, ite_true, ite_false, Nat.reduceEqDiff, Nat.reduceAdd, Nat.reduceSub, Nat.reduceMul, Nat.reduceLT, Nat.reduceLeDiff, Nat.reduceBEq, Int.reduceToNat, Int.reduceLT, Int.reduceLE, Int.reduceAdd, Int.reduceSub, Int.reduceNeg, Int.reduceBEq, Int.reduceEq, reduceCtorEq, ge_iff_le, gt_iff_lt]; first | done | exact rfl))
    (h : expR [] (nz (resV vals)) = some r := by (simp (disch := omega) only [↓reduceIte, ↓nxt, ↓wantS.eq_def, ↓opF, ↓St.ev.eq_def, ↓app_t, ↓app_m0, ↓app_m1, ↓app_m2, go_sem, *, resV.eq_def, nz.eq_def, nzA.eq_def, nz1.eq_def, expR.eq_def, expA.eq_def, expAL, exp1.eq_def, exp1L, posOf.eq_def, reduceIte, ite_true, ite_false, Nat.reduceEqDiff, Nat.reduceAdd, Nat.reduceSub, Nat.reduceMul, Nat.reduceLT, Nat.reduceLeDiff, Nat.reduceBEq, Int.reduceToNat, Int.reduceLT, Int.reduceLE, Int.reduceAdd, Int.reduceSub, Int.reduceNeg, Int.reduceBEq, Int.reduceEq, reduceCtorEq, ge_iff_le, gt_iff_lt]; first | done | exact rfl)) : FinT P ts 0 σ r [] [] := FinT.plain hv h
/-- A call of a plain contract. -/
theorem RC {g : Nat} {as : List PV} {r : PV} (hD : Den P g as [] r [] []) {ops os : List Oper} {o : Oper} {f : Operand} {args : Array Operand} {ts : Array Nat} {caps : List PV} {d : Option Nat} (hr : Run P Q (.reg ops os :: k) (σ.app d ⟨r, [], []⟩))
    (hdst : o.dst = d := by first | exact (rfl : some _ = some _) | exact (rfl : none = none))
    (hop : o.op = .call { callee := .value f, args := args, argTypes := ts } := by exact rfl)
    (hg : wantS ops σ o = some true := by (simp (disch := omega) only [↓reduceIte, ↓nxt, ↓wantS.eq_def, ↓opF, ↓St.ev.eq_def, ↓app_t, ↓app_m0, ↓app_m1, ↓app_m2, go_sem, *, reduceIte, ite_true, ite_false, Nat.reduceEqDiff, reduceCtorEq]; first | done | exact rfl))
    (hf : σ.ev f = .fn g caps := by (simp (disch := omega) only [↓reduceIte, ↓nxt, ↓wantS.eq_def, ↓opF, ↓St.ev.eq_def, ↓app_t, ↓app_m0, ↓app_m1, ↓app_m2, go_sem, *, reduceIte, ite_true, ite_false, Nat.reduceEqDiff, reduceCtorEq]; first | done | exact rfl))
    (has : args.toList.map σ.ev ++ caps = as := by (simp (disch := omega) only [↓reduceIte, ↓nxt, ↓wantS.eq_def, ↓opF, ↓St.ev.eq_def, ↓app_t, ↓app_m0, ↓app_m1, ↓app_m2, go_sem, *, reduceIte, ite_true, ite_false, Nat.reduceEqDiff, Nat.reduceAdd, Nat.reduceSub, Nat.reduceMul, Nat.reduceLT, Nat.reduceLeDiff, Nat.reduceBEq, Int.reduceToNat, Int.reduceLT, Int.reduceLE, Int.reduceAdd, Int.reduceSub, Int.reduceNeg, Int.reduceBEq, Int.reduceEq, reduceCtorEq, ge_iff_le, gt_iff_lt]; first | done | exact rfl))
    (hok : okF P g = true := by first | assumption | exact (by kernel_rfl))
    (ha : (as.all plainA) = true := by first | exact rfl | (simp only [List.all_cons, List.all_nil, Bool.and_true, Bool.true_and, *]; first | done | exact rfl) | (simp only [go_sem, plainA.eq_def, *]; first | done | fail))
    (hpr : plainV r = true := by first | exact rfl | (simp only [go_sem, plainV.eq_def, sfA.eq_def, *]; first | done | fail)) : Run P Q (.reg ops (o :: os) :: k) σ :=
  Run_pcall [] hop hg hf has hD hok ha hpr (hdst ▸ hr)
end
attribute [go_sem] List.take_succ_cons List.take_nil List.drop_succ_cons List.drop_nil
attribute [go_sem] List.replicate_succ List.replicate_zero ne_eq not_false_eq_true not_true_eq_false
attribute [go_sem] frzV.eq_def frz1.eq_def updm frzM frzK frzC.eq_def List.map_cons List.map_nil Option.map_some Option.map_none
end Go.Proofs.Ev
namespace Go.Proofs.Ev
open Go Go.RowKit
set_option linter.unusedVariables false
set_option linter.unusedSimpArgs false
theorem wpF_mono {S : Steps'} {ops : List Oper} : ∀ {rest : List Oper} {σ : St} {K K' : St → Prop}, (∀ τ, K τ → K' τ) → wpF S ops rest σ K → wpF S ops rest σ K'
  | [], σ, K, K', h, hw => h _ hw
  | o :: os, σ, K, K', h, hw => by
    obtain ⟨υ, e, hg, h1, h2⟩ := hw
    exact ⟨υ, e, hg, h1, wpF_mono h h2⟩
theorem wpD_mono {S : Steps'} {ops : List Oper} : ∀ {rest : List Oper} {log : List (List Id × List Id)} {σ : St} {K K' : List (List Id × List Id) → St → Prop}, (∀ l τ, K l τ → K' l τ) → wpD S ops rest log σ K → wpD S ops rest log σ K'
  | [], log, σ, K, K', h, hw => h _ _ hw
  | o :: os, log, σ, K, K', h, hw => by
    obtain ⟨e, h1, h2⟩ := hw
    exact ⟨e, h1, wpD_mono h h2⟩
theorem wpC_mono {S : Steps'} : ∀ {c : Code} {σ : St} {K K' : Exit → St → Prop}, (∀ e τ, K e τ → K' e τ) → wpC S c K σ → wpC S c K' σ
  | .skip, σ, K, K', h, hw => h _ _ hw
  | .label _, σ, K, K', h, hw => h _ _ hw
  | .seq a b, σ, K, K', h, hw => by
    simp only [wpC] at hw ⊢
    refine wpC_mono (c := a) (fun e τ h1 => ?_) hw
    cases e with
    | normal => exact wpC_mono (c := b) h h1
    | _ => exact h _ _ h1
  | .cond x a b, σ, K, K', h, hw => by
    simp only [wpC] at hw ⊢
    obtain ⟨t, h1, h2⟩ := hw
    refine ⟨t, h1, ?_⟩
    split
    · rename_i ht; rw [if_pos ht] at h2; exact wpC_mono h h2
    · rename_i ht; rw [if_neg ht] at h2; exact wpC_mono h h2
  | .block id c, σ, K, K', h, hw => by
    simp only [wpC] at hw ⊢
    refine wpC_mono (c := c) (fun e τ h1 => ?_) hw
    cases e with
    | exit j =>
      simp only at h1 ⊢
      split
      · rename_i ht; rw [if_pos ht] at h1; exact h _ _ h1
      · rename_i ht; rw [if_neg ht] at h1; exact h _ _ h1
    | _ => exact h _ _ h1
  | .scope c, σ, K, K', h, hw => by
    simp only [wpC] at hw ⊢
    refine wpC_mono (c := c) (fun e τ h1 => ?_) hw
    cases e with
    | goto l => exact h1
    | _ => exact h _ _ h1
  | .exit _, σ, K, K', h, hw => h _ _ hw
  | .ret, σ, K, K', h, hw => h _ _ hw
  | .region _ _ false, σ, K, K', h, hw => by
    simp only [wpC] at hw ⊢
    exact wpF_mono (fun τ => h _ τ) hw
  | .region _ _ true, σ, K, K', h, hw => by
    simp only [wpC] at hw ⊢
    obtain ⟨h0, υ, hg, h1⟩ := hw
    exact ⟨h0, υ, hg, wpD_mono (fun l τ h2 => ⟨h2.1, h _ τ h2.2⟩) h1⟩
  | .loop c, σ, K, K', h, hw => by
    simp only [wpC] at hw ⊢
    obtain ⟨I, n, h0, h1⟩ := hw
    refine ⟨I, n, h0, fun n σ hi => ?_⟩
    refine wpC_mono (c := c) (fun e τ h2 => ?_) (h1 n σ hi)
    cases e with
    | normal => exact h2
    | _ => exact h _ _ h2
  | .goto _, σ, K, K', h, hw => by simp [wpC] at hw
  | .rangeFunc _ _ _ _, σ, K, K', h, hw => by simp [wpC] at hw
/-- A fact that the walk is not to use. -/
structure Asd (p : Prop) : Prop where mk :: (out : p)
section
variable {P : Program} [Tbl P] {Q : St → Prop} {k : List It} {σ : St}
theorem Run_mid' {J : St → Prop} {k2 : List It} (hJ : ∀ τ, J τ → Run P Q k2 τ) : ∀ (n : Nat) (k1 : List It) (τ : St), k1.length ≤ n → Run P Q (k1 ++ .inv J :: k2) τ → Run P Q (k1 ++ k2) τ := by
  intro n
  induction n with
  | zero =>
    intro k1 τ hn h
    have : k1 = [] := by simpa using hn
    subst this
    rw [List.nil_append, Run_inv] at h
    exact hJ τ h
  | succ n ih =>
    have hO : ∀ (id : Nat) (k1 : List It) (τ : St), k1.length ≤ n → Out P Q id (k1 ++ .inv J :: k2) τ → Out P Q id (k1 ++ k2) τ := by
      intro id k1
      induction k1 with
      | nil => intro τ _ h; simpa only [List.nil_append, Out] using h
      | cons i k1 ihk =>
        intro τ hn h
        have hn' : k1.length ≤ n := by simp at hn; omega
        cases i with
        | blk j =>
          simp only [List.cons_append, Out] at h ⊢
          split
          · rename_i hj; rw [if_pos hj] at h; exact ih k1 τ hn' h
          · rename_i hj; rw [if_neg hj] at h; exact ihk τ hn' h
        | _ => simp only [List.cons_append, Out] at h ⊢; exact ihk τ hn' h
    intro k1 τ hn h
    cases k1 with
    | nil => rw [List.nil_append, Run_inv] at h; exact hJ τ h
    | cons i k1 =>
      have hn' : k1.length ≤ n := by simp at hn; omega
      cases i with
      | blk j => rw [List.cons_append, Run_blk] at h ⊢; exact ih k1 τ hn' h
      | inv J' => rw [List.cons_append, Run_inv] at h ⊢; exact h
      | reg ops rest => simp only [List.cons_append, Run] at h ⊢; exact wpF_mono (fun τ => ih k1 τ hn') h
      | drw ops rest log => simp only [List.cons_append, Run] at h ⊢; exact wpD_mono (fun l τ h => ⟨h.1, ih k1 τ hn' h.2⟩) h
      | c code =>
        simp only [List.cons_append, Run] at h ⊢
        refine wpC_mono (fun e τ h => ?_) h
        cases e with
        | normal => exact ih k1 τ hn' h
        | ret => exact h
        | exit id => exact hO id k1 τ hn' h
        | _ => exact h
/-- Ways that meet again behind the first n things to do. -/
theorem Run_mid (n : Nat) (J : St → Prop) (h1 : Run P Q (k.take n ++ .inv J :: k.drop n) σ) (h2 : ∀ τ, J τ → Run P Q (k.drop n) τ) : Run P Q k σ := by
  have := Run_mid' h2 (k.take n).length (k.take n) σ (Nat.le_refl _) h1
  rwa [List.take_append_drop] at this
end
end Go.Proofs.Ev
namespace Go.Proofs.Ev
open Go Go.RowKit
set_option linter.unusedVariables false
set_option linter.unusedSimpArgs false
section
variable {P : Program} [Tbl P] {Q : St → Prop} {k : List It} {σ : St}
theorem DD {id : Nat} {ops : Array Oper} (hr : Run P Q (.drw ops.toList ops.toList [] :: k) σ) (hs : statOk ops.toList = true := by exact (by kernel_rfl)) : Run P Q (.c (.region id ops true) :: k) σ := Run_draw [] hs hr
/-- The results' cells lie in other blocks. -/
def offB (σ : St) (b : Id) : List ResultVar → Bool
  | [] => true
  | .tmp _ :: l => offB σ b l
  | .cell a _ :: l => (match σ.t a with
    | .ptr b' _ _ _ => decide (b' ≠ b)
    | _ => false) && offB σ b l
theorem loadRow_frz {ty o : Nat} {row : List PV} {x : PV} {b : Id} {v : Nat} {rs : List (List PV)} (ha : aggP P ty = true) (h : loadRow P ty row o = some x) : loadRow P ty (row.map (frz1 b v rs)) o = some (frzV b v rs x) := by
  unfold loadRow at h ⊢
  rw [if_pos ha] at h ⊢
  split at h
  · rename_i hl
    cases h
    rw [if_pos (by simpa using hl)]
    simp only [frzV, List.map_drop, List.map_take]
  · cases h
theorem resL_frz {b : Id} {v : Nat} {fl : Bool} {e sz : Nat} {rs : List (List PV)} (hl : σ.m b = ⟨v, some (.rows fl e sz rs)⟩) : ∀ {ts : List ResultVar} {vals : List PV}, resL P σ ts = some vals → offB σ b ts = true → resL P ⟨fun i => frzV b v rs (σ.t i), frzM σ.m b v rs⟩ ts = some (vals.map (frzV b v rs))
  | [], vals, h, _ => by cases h; rfl
  | .tmp t :: l, vals, h, ho => by
    obtain ⟨q, hq, rfl⟩ := map_some h
    show (resL P _ l).map _ = _
    rw [resL_frz hl hq ho]
    rfl
  | .cell a ty :: l, vals, h, ho => by
    obtain ⟨y, hy, h⟩ := bind_some h
    obtain ⟨q, hq, rfl⟩ := map_some h
    simp only [offB, Bool.and_eq_true] at ho
    show (cellV P _ a ty).bind _ = _
    unfold cellV at hy
    split at hy
    · rename_i b' v' i o ht
      have ho1 := ho.1
      rw [ht] at ho1
      have hne : b' ≠ b := by simpa using ho1
      split at hy
      · rename_i e' sz' rs' hl'
        split at hy
        · rename_i hk
          obtain ⟨row, hrow, hy⟩ := bind_some hy
          have e1 : cellV P ⟨fun i => frzV b v rs (σ.t i), frzM σ.m b v rs⟩ a ty = some (frzV b v rs y) := by
            unfold cellV
            have e2 : frzV b v rs (σ.t a) = .ptr b' v' i o := by rw [ht]; simp [frzV, frz1, hne]
            simp only [e2]
            have e3 : look (frzM σ.m b v rs) b' v' = some (.rows false e' sz' (rs'.map fun r => r.map (frz1 b v rs))) := by
              obtain ⟨l1, l2⟩ := look_live hl'
              unfold look frzM
              rw [if_neg hne]
              simp [frzK, l1, l2, frzC]
            simp only [e3]
            rw [if_pos hk, List.getElem?_map, hrow]
            exact loadRow_frz hk.2 hy
          rw [e1, Option.bind_some, resL_frz hl hq ho.2]
          rfl
        · cases hy
      · cases hy
    · cases hy
/-- The end of a function that hands out a row that is no longer written. -/
theorem FZ (b : Id) {ts : List ResultVar} {vals : List PV} {r : PV} {fl : Bool} {e sz : Nat} {rs : List (List PV)} {v : Nat} (hl : σ.m b = ⟨v, some (.rows fl e sz rs)⟩ := by (simp (disch := omega) only [↓reduceIte, ↓nxt, ↓wantS.eq_def, ↓opF, ↓St.ev.eq_def, ↓app_t, ↓app_m0, ↓app_m1, ↓app_m2, go_sem, *, reduceIte, ite_true, ite_false, Nat.reduceEqDiff, Nat.reduceAdd, Nat.reduceSub, Nat.reduceMul, Nat.reduceLT, Nat.reduceLeDiff, Nat.reduceBEq, Int.reduceToNat, Int.reduceLT, Int.reduceLE, Int.reduceAdd, Int.reduceSub, Int.reduceNeg, Int.reduceBEq, Int.reduceEq, reduceCtorEq, ge_iff_le, gt_iff_lt]; first | done | exact rfl))
    (hv : resL P σ ts = some vals := by (simp (disch := omega) only [↓reduceIte, ↓nxt, ↓wantS.eq_def, ↓opF, ↓St.ev.eq_def, ↓app_t, ↓app_m0, ↓app_m1, ↓app_m2, go_sem, *, resL.eq_def, cellV, reduceIte, ite_true, ite_false, Nat.reduceEqDiff, Nat.reduceAdd, Nat.reduceSub, Nat.reduceMul, Nat.reduceLT, Nat.reduceLeDiff, Nat.reduceBEq, Int.reduceToNat, Int.reduceLT, Int.reduceLE, Int.reduceAdd, Int.reduceSub, Int.reduceNeg, Int.reduceBEq, Int.reduceEq, reduceCtorEq, ge_iff_le, gt_iff_lt]; first | done | exact rfl))
    (ho : offB σ b ts = true := by first | exact rfl | (simp (disch := omega) only [↓reduceIte, ↓nxt, ↓wantS.eq_def, ↓opF, ↓St.ev.eq_def, ↓app_t, ↓app_m0, ↓app_m1, ↓app_m2, go_sem, *, offB.eq_def, ne_eq, reduceIte, ite_true, ite_false, Nat.reduceEqDiff, Nat.reduceAdd, Nat.reduceSub, Nat.reduceMul, Nat.reduceLT, Nat.reduceLeDiff, Nat.reduceBEq, Int.reduceToNat, Int.reduceLT, Int.reduceLE, Int.reduceAdd, Int.reduceSub, Int.reduceNeg, Int.reduceBEq, Int.reduceEq, reduceCtorEq, ge_iff_le, gt_iff_lt]; first | done | exact rfl))
    (hfl : fl = true ∨ (rs.all fun r => r.all PV.sf) = true := by first | exact .inl rfl | exact .inr rfl | (refine .inr ?_; simp only [go_sem, *]; first | done | fail))
    (h : expR [] (nz (resV (vals.map (frzV b v rs)))) = some r := by (simp (disch := omega) only [↓reduceIte, ↓nxt, ↓wantS.eq_def, ↓opF, ↓St.ev.eq_def, ↓app_t, ↓app_m0, ↓app_m1, ↓app_m2, go_sem, *, resV.eq_def, nz.eq_def, nzA.eq_def, nz1.eq_def, expR.eq_def, expA.eq_def, expAL, exp1.eq_def, exp1L, posOf.eq_def, reduceIte, ite_true, ite_false, Nat.reduceEqDiff, Nat.reduceAdd, Nat.reduceSub, Nat.reduceMul, Nat.reduceLT, Nat.reduceLeDiff, Nat.reduceBEq, Int.reduceToNat, Int.reduceLT, Int.reduceLE, Int.reduceAdd, Int.reduceSub, Int.reduceNeg, Int.reduceBEq, Int.reduceEq, reduceCtorEq, ge_iff_le, gt_iff_lt]; first | done | exact rfl)) : FinT P ts 0 σ r [] [] := by
  have e1 : σ.frzL [b] = ⟨fun i => frzV b v rs (σ.t i), frzM σ.m b v rs⟩ := by
    show σ.frz b = _
    unfold St.frz
    rw [hl]
    simp only
    rw [if_pos hfl]
  exact ⟨σ.frzL [b], [], _, Gh.frz σ [b], by rw [e1]; exact resL_frz hl hv ho, h, rfl, rfl, List.nodup_nil, by simp, rfl, rfl, by simp⟩
end
end Go.Proofs.Ev
namespace Go.Proofs.Ev
open Go Go.RowKit
set_option linter.unusedVariables false
set_option linter.unusedSimpArgs false
section
variable {P : Program} [Tbl P] {Q : St → Prop} {k : List It} {σ : St}
def boxA (x : PV) : Option PV := some x
theorem boxA_eq {x y : PV} (h : boxA x = some y) : x = y := Option.some.inj h
/-- One operation; nil rows in what it gives are told as rows without cells. -/
theorem R1z {ops os : List Oper} {o : Oper} {e : Eff} {d : Option Nat} {v : PV} (hr : Run P Q (.reg ops os :: k) (σ.app d ⟨v, e.lk, e.wr⟩))
    (hdst : o.dst = d := by first | exact (rfl : some _ = some _) | exact (rfl : none = none))
    (hg : wantS ops σ o = some true := by (simp (disch := omega) only [↓reduceIte, ↓nxt, ↓wantS.eq_def, ↓opF, ↓St.ev.eq_def, ↓app_t, ↓app_m0, ↓app_m1, ↓app_m2, go_sem, *, reduceIte, ite_true, ite_false, Nat.reduceEqDiff, Nat.reduceAdd, Nat.reduceSub, Nat.reduceMul, Nat.reduceLT, Nat.reduceLeDiff, Nat.reduceBEq, Int.reduceToNat, Int.reduceLT, Int.reduceLE, Int.reduceAdd, Int.reduceSub, Int.reduceNeg, Int.reduceBEq, Int.reduceEq, reduceCtorEq, List.take_succ_cons, List.take_nil, List.drop_succ_cons, List.drop_nil, ge_iff_le, gt_iff_lt]; first | done | exact rfl))
    (h : opF P σ o = some e := by (simp (disch := omega) only [↓reduceIte, ↓nxt, ↓wantS.eq_def, ↓opF, ↓St.ev.eq_def, ↓app_t, ↓app_m0, ↓app_m1, ↓app_m2, go_sem, *, reduceIte, ite_true, ite_false, Nat.reduceEqDiff, Nat.reduceAdd, Nat.reduceSub, Nat.reduceMul, Nat.reduceLT, Nat.reduceLeDiff, Nat.reduceBEq, Int.reduceToNat, Int.reduceLT, Int.reduceLE, Int.reduceAdd, Int.reduceSub, Int.reduceNeg, Int.reduceBEq, Int.reduceEq, reduceCtorEq, List.take_succ_cons, List.take_nil, List.drop_succ_cons, List.drop_nil, ge_iff_le, gt_iff_lt]; first | done | exact rfl))
    (hv : boxA (nzA e.v) = some v := by (simp only [boxA, nzA.eq_def, nz1.eq_def, List.map_cons, List.map_nil]; first | done | exact rfl)) : Run P Q (.reg ops (o :: os) :: k) σ := by
  rw [← boxA_eq hv] at hr
  exact Run_opz hg h (hdst ▸ hr)
/-- What is needed of a state, from here on. -/
theorem Run_gen (J : St → Prop) (hJ : J σ) (h : ∀ τ, J τ → Run P Q k τ) : Run P Q k σ := h σ hJ
/-- A row without cells is nil, or it is not. -/
theorem Den_split {f : Nat} (pre post : List PV) {bs : List Cont} {r : PV} {nb bs' : List Cont} (h1 : Den P f (pre ++ .nils :: post) bs r nb bs') (h2 : Den P f (pre ++ .re :: post) bs r nb bs') : Den P f (pre ++ .ro [] :: post) bs r nb bs' := by
  intro us foot omut c hT hb hl hargs R
  have hlen : pre.length < us.length := by rw [← hl]; simp
  have key : ∀ (x : PV), RelV c x us[pre.length] → ∀ (i : Nat) (y : PV) (u : Value), (pre ++ x :: post)[i]? = some y → us[i]? = some u → RelV c y u := by
    intro x hx i y u hy hu
    by_cases hi : i < pre.length
    · rw [List.getElem?_append_left hi] at hy
      exact hargs i y u (by rw [List.getElem?_append_left hi]; exact hy) hu
    · by_cases he : i = pre.length
      · subst he
        rw [List.getElem?_append_right (Nat.le_refl _), Nat.sub_self] at hy
        cases hy
        rw [List.getElem?_eq_getElem hlen] at hu
        cases hu
        exact hx
      · rw [List.getElem?_append_right (by omega)] at hy
        refine hargs i y u ?_ hu
        rw [List.getElem?_append_right (by omega)]
        obtain ⟨j, hj⟩ : ∃ j, i - pre.length = j + 1 := ⟨i - pre.length - 1, by omega⟩
        rw [hj] at hy ⊢
        simpa using hy
  have h0 := hargs pre.length (.ro []) us[pre.length] (by rw [List.getElem?_append_right (Nat.le_refl _), Nat.sub_self]; rfl) (List.getElem?_eq_getElem hlen)
  generalize hu : us[pre.length] = u0 at h0 key
  generalize hrow : PV.ro [] = v0 at h0
  cases h0 with
  | ro rows A cap sz f' hn hA hz hb' hf hc h =>
    cases hrow
    cases A with
    | none =>
      obtain ⟨_, e⟩ := hA rfl
      subst e
      exact h1 us foot omut c hT hb (by rw [← hl]; simp) (key .nils .nils) R
    | some ad => exact h2 us foot omut c hT hb (by rw [← hl]; simp) (key .re (.re ad cap)) R
  | _ => cases hrow
end
end Go.Proofs.Ev
namespace Go.Proofs.Ev
open Go Go.RowKit
set_option linter.unusedVariables false
set_option linter.unusedSimpArgs false
theorem app_eq {σ : St} {d : Option Nat} {e e' : Eff} (h1 : e.v = e'.v) (h2 : e.wr = e'.wr) : σ.app d e = σ.app d e' := by
  unfold St.app
  rw [h1, h2]
section
variable {P : Program} [Tbl P] {Q : St → Prop} {k : List It} {σ : St}
/-- A call that hands in one block, and gets plain values. -/
theorem RP (b : Id) {v : Nat} {x y : Cont} {g : Nat} {as : List PV} {r : PV} (hD : Den P g as [x] r [] [y]) {ops os : List Oper} {o : Oper} {f : Operand} {args : Array Operand} {ts : Array Nat} {caps : List PV} {d : Option Nat} (hr : Run P Q (.reg ops os :: k) (σ.app d ⟨r, [], [(b, ⟨v, some y⟩)]⟩))
    (hdst : o.dst = d := by first | exact (rfl : some _ = some _) | exact (rfl : none = none))
    (hop : o.op = .call { callee := .value f, args := args, argTypes := ts } := by exact rfl)
    (hm : σ.m b = ⟨v, some x⟩ := by (simp (disch := omega) only [↓reduceIte, ↓nxt, ↓wantS.eq_def, ↓opF, ↓St.ev.eq_def, ↓app_t, ↓app_m0, ↓app_m1, ↓app_m2, go_sem, *, reduceIte, ite_true, ite_false, Nat.reduceEqDiff, Nat.reduceAdd, reduceCtorEq]; first | done | exact rfl))
    (hg : wantS ops σ o = some true := by (simp (disch := omega) only [↓reduceIte, ↓nxt, ↓wantS.eq_def, ↓opF, ↓St.ev.eq_def, ↓app_t, ↓app_m0, ↓app_m1, ↓app_m2, go_sem, *, reduceIte, ite_true, ite_false, Nat.reduceEqDiff, reduceCtorEq]; first | done | exact rfl))
    (hf : σ.ev f = .fn g caps := by (simp (disch := omega) only [↓reduceIte, ↓nxt, ↓wantS.eq_def, ↓opF, ↓St.ev.eq_def, ↓app_t, ↓app_m0, ↓app_m1, ↓app_m2, go_sem, *, reduceIte, ite_true, ite_false, Nat.reduceEqDiff, reduceCtorEq]; first | done | exact rfl))
    (has : passL [(b, v)] (args.toList.map σ.ev ++ caps) = some as := by (simp (disch := omega) only [↓reduceIte, ↓nxt, ↓wantS.eq_def, ↓opF, ↓St.ev.eq_def, ↓app_t, ↓app_m0, ↓app_m1, ↓app_m2, go_sem, *, passL.eq_def, passV.eq_def, pass1.eq_def, pass1L.eq_def, posOf.eq_def, reduceIte, ite_true, ite_false, Nat.reduceEqDiff, Nat.reduceAdd, Nat.reduceSub, Nat.reduceMul, Nat.reduceLT, Nat.reduceLeDiff, Nat.reduceBEq, Int.reduceToNat, Int.reduceLT, Int.reduceLE, Int.reduceAdd, Int.reduceSub, Int.reduceNeg, Int.reduceBEq, Int.reduceEq, reduceCtorEq, ge_iff_le, gt_iff_lt]; first | done | exact rfl))
    (hok : okF P g = true := by first | assumption | exact (by kernel_rfl))
    (hb : ∀ j, b ≠ .loc (o.dst.getD 0) j := by (intro j; simp only [ne_eq, Id.loc.injEq, reduceCtorEq, not_false_eq_true, Option.getD_some, Option.getD_none, Nat.reduceEqDiff, false_and]))
    (hx : flatC x = true := by first | exact rfl | (simp only [go_sem, flatC, *]; first | done | fail))
    (hy : flatC y = true := by first | exact rfl | (simp only [go_sem, flatC, *]; first | done | fail))
    (hpr : plainV r = true := by first | exact rfl | (simp only [go_sem, plainV.eq_def, sfA.eq_def, *]; first | done | fail)) : Run P Q (.reg ops (o :: os) :: k) σ := by
  have hC : CallE P σ (o.dst.getD 0) g (args.toList.map σ.ev ++ caps) (callEff σ.m (o.dst.getD 0) [(b, v)] r [] [y]) := by
    refine ⟨[(b, v)], as, [x], r, [], [y], hok, has, rfl, rfl, by simp, ?_, by simp [hx], by simp [hy], rfl, (renR_plain (m := σ.m) (d := 0) hpr).2, hD, rfl⟩
    intro j p hj
    cases j with
    | zero => cases hj; exact ⟨by rw [hm], by rw [hm]; rfl, hb⟩
    | succ j => simp at hj
  refine Run_call [] hop hg hf hC ?_
  rw [frzL_nil, app_eq (e' := ⟨r, [], [(b, ⟨v, some y⟩)]⟩) ((renR_plain (m := σ.m) (d := o.dst.getD 0) (n := 0) hpr).1) (by simp [callEff])]
  exact hdst ▸ hr
def boxP (x : List PV) : Option (List PV) := some x
theorem boxP_eq {x y : List PV} (h : boxP x = some y) : x = y := Option.some.inj h
/-- A contract for rows without cells serves nil rows, too. -/
theorem Den_nz {f : Nat} {as0 : List PV} {bs : List Cont} {r : PV} {nb bs' : List Cont} (h : Den P f (as0.map nzA) bs r nb bs') : Den P f as0 bs r nb bs' := by
  intro us foot omut c hT hb hl hargs R
  refine h us foot omut c hT hb (by simpa using hl) (fun i x u hx hu => ?_) R
  rw [List.getElem?_map] at hx
  cases hq : as0[i]? with
  | none => rw [hq] at hx; cases hx
  | some q => rw [hq] at hx; cases hx; exact nzA_rel (hargs i q u hq hu)
/-- A call that gets one new block. -/
theorem RN {y : Cont} {g : Nat} {as : List PV} {n : Nat} (hD : Den P g as [] (.own (.loc 0 0) 1 n) [y] []) {ops os : List Oper} {o : Oper} {d : Nat} {f : Operand} {args : Array Operand} {ts : Array Nat} {caps : List PV} (hr : Run P Q (.reg ops os :: k) (σ.app (some d) ⟨.own (.loc d 0) ((σ.m (.loc d 0)).ver + 1) n, [], [(.loc d 0, ⟨(σ.m (.loc d 0)).ver + 1, some y⟩)]⟩))
    (hd : o.dst = some d := by exact (rfl : some _ = some _))
    (hop : o.op = .call { callee := .value f, args := args, argTypes := ts } := by exact rfl)
    (hg : wantS ops σ o = some true := by (simp (disch := omega) only [↓reduceIte, ↓nxt, ↓wantS.eq_def, ↓opF, ↓St.ev.eq_def, ↓app_t, ↓app_m0, ↓app_m1, ↓app_m2, go_sem, *, reduceIte, ite_true, ite_false, Nat.reduceEqDiff, reduceCtorEq]; first | done | exact rfl))
    (hf : σ.ev f = .fn g caps := by (simp (disch := omega) only [↓reduceIte, ↓nxt, ↓wantS.eq_def, ↓opF, ↓St.ev.eq_def, ↓app_t, ↓app_m0, ↓app_m1, ↓app_m2, go_sem, *, reduceIte, ite_true, ite_false, Nat.reduceEqDiff, reduceCtorEq]; first | done | exact rfl))
    (has : args.toList.map σ.ev ++ caps = as := by (simp (disch := omega) only [↓reduceIte, ↓nxt, ↓wantS.eq_def, ↓opF, ↓St.ev.eq_def, ↓app_t, ↓app_m0, ↓app_m1, ↓app_m2, go_sem, *, reduceIte, ite_true, ite_false, Nat.reduceEqDiff, Nat.reduceAdd, Nat.reduceSub, Nat.reduceMul, Nat.reduceLT, Nat.reduceLeDiff, Nat.reduceBEq, Int.reduceToNat, Int.reduceLT, Int.reduceLE, Int.reduceAdd, Int.reduceSub, Int.reduceNeg, Int.reduceBEq, Int.reduceEq, reduceCtorEq, ge_iff_le, gt_iff_lt]; first | done | exact rfl))
    (hok : okF P g = true := by first | assumption | exact (by kernel_rfl))
    (ha : (as.all plainA) = true := by first | exact rfl | (simp only [List.all_cons, List.all_nil, Bool.and_true, Bool.true_and, *]; first | done | exact rfl) | (simp only [go_sem, plainA.eq_def, *]; first | done | fail))
    (hy : flatC y = true := by first | exact rfl | (simp only [go_sem, flatC, *]; first | done | fail)) : Run P Q (.reg ops (o :: os) :: k) σ := by
  have hC : CallE P σ (o.dst.getD 0) g (args.toList.map σ.ev ++ caps) (callEff σ.m (o.dst.getD 0) [] (.own (.loc 0 0) 1 n) [y] []) := by
    subst has
    exact ⟨[], _, [], _, [y], [], hok, passL_plain ha, rfl, rfl, by simp, by simp, rfl, rfl, by simp [hy], by simp [resR, resA, res1], hD, rfl⟩
  refine Run_call [] hop hg hf hC ?_
  rw [frzL_nil]
  rw [hd]
  exact hr
/-- The end of a function that answers plain values and leaves the one block that it was handed so. -/
theorem FP {ts : List ResultVar} {vals : List PV} {r : PV} {y : Cont} (hv : resL P σ ts = some vals := by (simp (disch := omega) only [↓reduceIte, ↓nxt, ↓wantS.eq_def, ↓opF, ↓St.ev.eq_def, ↓app_t, ↓app_m0, ↓app_m1, ↓app_m2, go_sem, *, resL.eq_def, cellV, reduceIte, ite_true, ite_false, Nat.reduceEqDiff, Nat.reduceAdd, Nat.reduceSub, Nat.reduceMul, Nat.reduceLT, Nat.reduceLeDiff, Nat.reduceBEq, Int.reduceToNat, Int.reduceLT, Int.reduceLE, Int.reduceAdd, Int.reduceSub, Int.reduceNeg, Int.reduceBEq, Int.reduceEq, reduceCtorEq, ge_iff_le, gt_iff_lt]; first | done | exact rfl))
    (h : expR [] (nz (resV vals)) = some r := by (simp (disch := omega) only [↓reduceIte, ↓nxt, ↓wantS.eq_def, ↓opF, ↓St.ev.eq_def, ↓app_t, ↓app_m0, ↓app_m1, ↓app_m2, go_sem, *, resV.eq_def, nz.eq_def, nzA.eq_def, nz1.eq_def, expR.eq_def, expA.eq_def, expAL, exp1.eq_def, exp1L, posOf.eq_def, reduceIte, ite_true, ite_false, Nat.reduceEqDiff, Nat.reduceAdd, Nat.reduceSub, Nat.reduceMul, Nat.reduceLT, Nat.reduceLeDiff, Nat.reduceBEq, Int.reduceToNat, Int.reduceLT, Int.reduceLE, Int.reduceAdd, Int.reduceSub, Int.reduceNeg, Int.reduceBEq, Int.reduceEq, reduceCtorEq, ge_iff_le, gt_iff_lt]; first | done | exact rfl))
    (hm : σ.m (.ext 0) = ⟨0, some y⟩ := by (simp (disch := omega) only [↓reduceIte, ↓nxt, ↓wantS.eq_def, ↓opF, ↓St.ev.eq_def, ↓app_t, ↓app_m0, ↓app_m1, ↓app_m2, go_sem, *, reduceIte, ite_true, ite_false, Nat.reduceEqDiff, Nat.reduceAdd, Nat.reduceSub, Nat.reduceMul, Nat.reduceLT, Nat.reduceLeDiff, Nat.reduceBEq, Int.reduceToNat, Int.reduceLT, Int.reduceLE, Int.reduceAdd, Int.reduceSub, Int.reduceNeg, Int.reduceBEq, Int.reduceEq, reduceCtorEq, ge_iff_le, gt_iff_lt]; first | done | exact rfl))
    (hy : flatC y = true := by first | exact rfl | (simp only [go_sem, flatC, *]; first | done | fail)) : FinT P ts 1 σ r [] [y] :=
  ⟨σ, [], vals, Gh.refl σ, hv, h, rfl, rfl, List.nodup_nil, by simp, rfl, by simp [hy], fun k hk => (by cases k with | zero => exact hm | succ k => omega)⟩
/-- The end of a function that hands out one new block. -/
theorem FN (b : Id) {ts : List ResultVar} {vals : List PV} {y : Cont} {v n : Nat} (hm : σ.m b = ⟨v, some y⟩ := by (simp (disch := omega) only [↓reduceIte, ↓nxt, ↓wantS.eq_def, ↓opF, ↓St.ev.eq_def, ↓app_t, ↓app_m0, ↓app_m1, ↓app_m2, go_sem, *, reduceIte, ite_true, ite_false, Nat.reduceEqDiff, Nat.reduceAdd, Nat.reduceSub, Nat.reduceMul, Nat.reduceLT, Nat.reduceLeDiff, Nat.reduceBEq, Int.reduceToNat, Int.reduceLT, Int.reduceLE, Int.reduceAdd, Int.reduceSub, Int.reduceNeg, Int.reduceBEq, Int.reduceEq, reduceCtorEq, ge_iff_le, gt_iff_lt]; first | done | exact rfl))
    (hv : resL P σ ts = some vals := by (simp (disch := omega) only [↓reduceIte, ↓nxt, ↓wantS.eq_def, ↓opF, ↓St.ev.eq_def, ↓app_t, ↓app_m0, ↓app_m1, ↓app_m2, go_sem, *, resL.eq_def, cellV, reduceIte, ite_true, ite_false, Nat.reduceEqDiff, Nat.reduceAdd, Nat.reduceSub, Nat.reduceMul, Nat.reduceLT, Nat.reduceLeDiff, Nat.reduceBEq, Int.reduceToNat, Int.reduceLT, Int.reduceLE, Int.reduceAdd, Int.reduceSub, Int.reduceNeg, Int.reduceBEq, Int.reduceEq, reduceCtorEq, ge_iff_le, gt_iff_lt]; first | done | exact rfl))
    (h : expR [(b, v)] (nz (resV vals)) = some (.own (.loc 0 0) 1 n) := by (simp (disch := omega) only [↓reduceIte, ↓nxt, ↓wantS.eq_def, ↓opF, ↓St.ev.eq_def, ↓app_t, ↓app_m0, ↓app_m1, ↓app_m2, go_sem, *, resV.eq_def, nz.eq_def, nzA.eq_def, nz1.eq_def, expR.eq_def, expA.eq_def, expAL, exp1.eq_def, exp1L, posOf.eq_def, reduceIte, ite_true, ite_false, Nat.reduceEqDiff, Nat.reduceAdd, Nat.reduceSub, Nat.reduceMul, Nat.reduceLT, Nat.reduceLeDiff, Nat.reduceBEq, Int.reduceToNat, Int.reduceLT, Int.reduceLE, Int.reduceAdd, Int.reduceSub, Int.reduceNeg, Int.reduceBEq, Int.reduceEq, reduceCtorEq, ge_iff_le, gt_iff_lt]; first | done | exact rfl))
    (hb : ∀ k, b ≠ .ext k := by (intro k; simp only [ne_eq, reduceCtorEq, not_false_eq_true]))
    (hy : flatC y = true := by first | exact rfl | (simp only [go_sem, flatC, *]; first | done | fail)) : FinT P ts 0 σ (.own (.loc 0 0) 1 n) [y] [] :=
  ⟨σ, [(b, v)], vals, Gh.refl σ, hv, h, rfl, rfl, by simp, fun j p hj => by
    cases j with
    | zero => cases hj; exact ⟨by rw [hm], by rw [hm]; rfl, hb⟩
    | succ j => simp at hj, by simp [hy], rfl, by simp⟩
end
end Go.Proofs.Ev
namespace Go.Proofs.Ev
open Go Go.RowKit
set_option linter.unusedVariables false
set_option linter.unusedSimpArgs false
def memB (p q : List Id × List Id) : Bool := (p.2.all fun b => !(q.1.contains b) && !(q.2.contains b)) && (q.2.all fun b => !(p.1.contains b))
def okLogB (ops : List Oper) (log : List (List Id × List Id)) : Bool :=
  (List.range log.length).all fun j => (List.range j).all fun i => anc ops j i || match log[i]?, log[j]? with
    | some p, some q => memB p q
    | _, _ => true
theorem okLog_of {ops : List Oper} {log : List (List Id × List Id)} (h : okLogB ops log = true) : okLog ops log := by
  intro i j p q hij hp hq
  have hj : j < log.length := (List.getElem?_eq_some_iff.1 hq).1
  have h1 := List.all_eq_true.1 (List.all_eq_true.1 h j (List.mem_range.2 hj)) i (List.mem_range.2 hij)
  rw [hp, hq] at h1
  simp only [Bool.or_eq_true] at h1
  rcases h1 with h1 | h1
  · exact .inl h1
  · refine .inr ?_
    unfold memB at h1
    rw [Bool.and_eq_true] at h1
    refine ⟨fun b hb => ?_, fun b hb => ?_⟩
    · have := List.all_eq_true.1 h1.1 b hb
      simpa using this
    · have := List.all_eq_true.1 h1.2 b hb
      simpa using this
def boxO (x : List Operand) : Option (List Operand) := some x
theorem boxO_eq {x y : List Operand} (h : boxO x = some y) : x = y := Option.some.inj h
def boxL (x : List Id) : Option (List Id) := some x
theorem boxL_eq {x y : List Id} (h : boxL x = some y) : x = y := Option.some.inj h
theorem refsOf_of {σ : St} {o : Oper} {xs : List Operand} (h : o.op.operands.toList = xs) (hn : isMove o.op = false) : refsOf σ o = (xs.map σ.ev).flatMap refsC := by
  subst h
  unfold refsOf
  rw [if_neg (by rw [hn]; decide)]
  rw [List.flatMap_map]
section
variable {P : Program} [Tbl P] {Q : St → Prop} {k : List It} {σ : St}
theorem D1W {ops os : List Oper} {o : Oper} {e : Eff} {log : List (List Id × List Id)} {r w : List Id} {xs : List Operand} {d : Option Nat} (hr : Run P Q (.drw ops os (log ++ [(r, w)]) :: k) (σ.app d e))
    (hn : isMove o.op = false := by exact rfl)
    (hdst : o.dst = d := by first | exact (rfl : some _ = some _) | exact (rfl : none = none))
    (h : nxt P ops σ o = some e := by (simp (disch := omega) only [↓reduceIte, ↓nxt, ↓wantS.eq_def, ↓opF, ↓St.ev.eq_def, ↓app_t, ↓app_m0, ↓app_m1, ↓app_m2, go_sem, *, reduceIte, ite_true, ite_false, Nat.reduceEqDiff, Nat.reduceAdd, Nat.reduceSub, Nat.reduceMul, Nat.reduceLT, Nat.reduceLeDiff, Nat.reduceBEq, Int.reduceToNat, Int.reduceLT, Int.reduceLE, Int.reduceAdd, Int.reduceSub, Int.reduceNeg, Int.reduceBEq, Int.reduceEq, reduceCtorEq, List.take_succ_cons, List.take_nil, List.drop_succ_cons, List.drop_nil, ge_iff_le, gt_iff_lt]; first | done | exact rfl))
    (h2 : e.wr.map (·.1) = w := by exact rfl)
    (hxs : boxO o.op.operands.toList = some xs := by (simp only [boxO, Op.operands, Call.operands, Array.toList_append, List.toList_toArray, List.map_cons, List.map_nil, List.append_nil, List.nil_append, List.cons_append, Option.toList, Option.toArray, Option.some.injEq, Array.toArray_toList]; first | done | exact rfl))
    (h1 : boxL ((xs.map σ.ev).flatMap refsC) = some r := by (simp (disch := omega) only [↓reduceIte, ↓St.ev.eq_def, ↓app_t, go_sem, *, boxL, refsC.eq_def, refs.eq_def, List.flatMap_cons, List.flatMap_nil, List.nil_append, List.append_nil, List.cons_append, List.map_cons, List.map_nil, reduceIte, ite_true, ite_false, Nat.reduceEqDiff, reduceCtorEq]; first | done | exact rfl)) : Run P Q (.drw ops (o :: os) log :: k) σ := by
  subst h2
  exact Run_dnxt h ((refsOf_of (boxO_eq hxs) hn).trans (boxL_eq h1)) (hdst ▸ hr)
theorem D1M {ops os : List Oper} {o : Oper} {e : Eff} {log : List (List Id × List Id)} {w : List Id} {d : Option Nat} (hr : Run P Q (.drw ops os (log ++ [([], w)]) :: k) (σ.app d e))
    (hn : isMove o.op = true := by exact rfl)
    (hdst : o.dst = d := by first | exact (rfl : some _ = some _) | exact (rfl : none = none))
    (h : nxt P ops σ o = some e := by (simp (disch := omega) only [↓reduceIte, ↓nxt, ↓wantS.eq_def, ↓opF, ↓St.ev.eq_def, ↓app_t, ↓app_m0, ↓app_m1, ↓app_m2, go_sem, *, reduceIte, ite_true, ite_false, Nat.reduceEqDiff, Nat.reduceAdd, Nat.reduceSub, Nat.reduceMul, Nat.reduceLT, Nat.reduceLeDiff, Nat.reduceBEq, Int.reduceToNat, Int.reduceLT, Int.reduceLE, Int.reduceAdd, Int.reduceSub, Int.reduceNeg, Int.reduceBEq, Int.reduceEq, reduceCtorEq, List.take_succ_cons, List.take_nil, List.drop_succ_cons, List.drop_nil, ge_iff_le, gt_iff_lt]; first | done | exact rfl))
    (h2 : e.wr.map (·.1) = w := by exact rfl) : Run P Q (.drw ops (o :: os) log :: k) σ := by
  subst h2
  exact Run_dnxt h (by unfold refsOf; rw [if_pos hn]) (hdst ▸ hr)
theorem D0W {ops : List Oper} {log : List (List Id × List Id)} (hr : Run P Q k σ) (h : okLogB ops log = true := by (simp only [List.nil_append, List.cons_append, List.map_cons, List.map_nil]; decide)) : Run P Q (.drw ops [] log :: k) σ := by
  rw [Run_drw_nil (okLog_of h)]; exact hr
/-- A call of a plain contract, in a region that draws. -/
theorem DC {g : Nat} {as : List PV} {r : PV} (hD : Den P g as [] r [] []) {ops os : List Oper} {o : Oper} {log : List (List Id × List Id)} {rf : List Id} {xs : List Operand} {f : Operand} {args : Array Operand} {ts : Array Nat} {caps : List PV} {d : Option Nat} (hr : Run P Q (.drw ops os (log ++ [(rf, [])]) :: k) (σ.app d ⟨r, [], []⟩))
    (hdst : o.dst = d := by first | exact (rfl : some _ = some _) | exact (rfl : none = none))
    (hop : o.op = .call { callee := .value f, args := args, argTypes := ts } := by exact rfl)
    (hg : wantS ops σ o = some true := by (simp (disch := omega) only [↓reduceIte, ↓nxt, ↓wantS.eq_def, ↓opF, ↓St.ev.eq_def, ↓app_t, ↓app_m0, ↓app_m1, ↓app_m2, go_sem, *, reduceIte, ite_true, ite_false, Nat.reduceEqDiff, reduceCtorEq]; first | done | exact rfl))
    (hf : σ.ev f = .fn g caps := by (simp (disch := omega) only [↓reduceIte, ↓nxt, ↓wantS.eq_def, ↓opF, ↓St.ev.eq_def, ↓app_t, ↓app_m0, ↓app_m1, ↓app_m2, go_sem, *, reduceIte, ite_true, ite_false, Nat.reduceEqDiff, reduceCtorEq]; first | done | exact rfl))
    (has : args.toList.map σ.ev ++ caps = as := by (simp (disch := omega) only [↓reduceIte, ↓nxt, ↓wantS.eq_def, ↓opF, ↓St.ev.eq_def, ↓app_t, ↓app_m0, ↓app_m1, ↓app_m2, go_sem, *, reduceIte, ite_true, ite_false, Nat.reduceEqDiff, Nat.reduceAdd, Nat.reduceSub, Nat.reduceMul, Nat.reduceLT, Nat.reduceLeDiff, Nat.reduceBEq, Int.reduceToNat, Int.reduceLT, Int.reduceLE, Int.reduceAdd, Int.reduceSub, Int.reduceNeg, Int.reduceBEq, Int.reduceEq, reduceCtorEq, ge_iff_le, gt_iff_lt]; first | done | exact rfl))
    (hxs : boxO o.op.operands.toList = some xs := by (simp only [boxO, Op.operands, Call.operands, Array.toList_append, List.toList_toArray, List.map_cons, List.map_nil, List.append_nil, List.nil_append, List.cons_append, Option.toList, Option.toArray, Option.some.injEq, Array.toArray_toList]; first | done | exact rfl))
    (hrf : boxL ((xs.map σ.ev).flatMap refsC) = some rf := by (simp (disch := omega) only [↓reduceIte, ↓St.ev.eq_def, ↓app_t, go_sem, *, boxL, refsC.eq_def, refs.eq_def, List.flatMap_cons, List.flatMap_nil, List.nil_append, List.append_nil, List.cons_append, List.map_cons, List.map_nil, reduceIte, ite_true, ite_false, Nat.reduceEqDiff, reduceCtorEq]; first | done | exact rfl))
    (hok : okF P g = true := by first | assumption | exact (by kernel_rfl))
    (ha : (as.all plainA) = true := by first | exact rfl | (simp only [List.all_cons, List.all_nil, Bool.and_true, Bool.true_and, *]; first | done | exact rfl) | (simp only [go_sem, plainA.eq_def, *]; first | done | fail))
    (hpr : plainV r = true := by first | exact rfl | (simp only [go_sem, plainV.eq_def, sfA.eq_def, *]; first | done | fail)) : Run P Q (.drw ops (o :: os) log :: k) σ :=
  Run_dpcall hop hg hf has hD hok ha hpr ((refsOf_of (boxO_eq hxs) (by rw [hop]; rfl)).trans (boxL_eq hrf)) (hdst ▸ hr)
end
end Go.Proofs.Ev
namespace Go.Proofs.Ev
open Go Go.RowKit
set_option linter.unusedVariables false
theorem stp {G H : Prop} (h : H) (s : H → G := by (intro h_; first | (show Run _ _ (.reg _ (_ :: _) :: _) _; exact R1 h_) | exact S3 h_ | (show Run _ _ (.drw _ (_ :: _) _ :: _) _; first | exact D1M h_ | exact D1W h_) | (show Run _ _ (.drw _ [] _ :: _) _; exact D0W h_) | (show Run _ _ (.c (.region _ _ true) :: _) _; exact DD h_) | exact S2 h_ | exact S1 h_ | (show Run _ _ (.c (.cond _ _ _) :: _) _; first | exact RT h_ | exact RF h_) | exact S6 h_ | exact S7 h_ | exact S5 h_ | exact S8 h_ | exact SA h_ | exact SB h_ | exact SC h_ | exact SD h_ | exact S4 h_ | exact S9 h_ | exact SE h_ | exact SF h_ | exact SG h_ | fail)) : G := s h
end Go.Proofs.Ev
