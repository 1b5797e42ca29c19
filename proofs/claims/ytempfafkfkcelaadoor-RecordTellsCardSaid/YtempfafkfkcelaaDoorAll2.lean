-- Written for this claim by wip/tools/gprint.py out of the translation (it drives the kit's print). Lean checks it.
import Derived.Test.YtempfafkfkcelaaDoorAll0
import Derived.Test.YtempfafkfkcelaaDoorAll1
namespace Go.Proofs.YtempfafkfkcelaaDoor.All
open Go.RowKit Go.Proofs.YtempfafkfkcelaaDoorW.PrintWords Go.Proofs.YtempfafkfkcelaaDoorW.PrintLast Go.Proofs.YtempfafkfkcelaaDoorW.PrintMore Go.Proofs.YtempfafkfkcelaaDoor.G
attribute [local go_sem] max2_int min2_int max_two min_two max_three min_three max_four min_four str_leq str_gtr str_geq   -- for this text's walks alone
set_option linter.unusedVariables false
set_option linter.unusedSimpArgs false

/-! ### record_Line: function 10 -/
structure Byts (w : World) (b : Nat) (l : List UInt8) : Prop where
  cell : ∀ j, j < l.length → w.cell? ⟨b, j, none⟩ = some (.int .u8 ((l[j]?.getD 0).toNat : Int))
  frozen : ∀ j, j < l.length → w.frozen? ⟨b, j, none⟩ = false
theorem Byts.drew {w : World} {b : Nat} {l : List UInt8} (h : Byts w b l) : Byts w.drew b l := ⟨h.cell, h.frozen⟩
theorem Byts.set {w : World} {b : Nat} {l : List UInt8} (h : Byts w b l) (i : Nat) (x : UInt8) : Byts (w.setCell ⟨b, i, none⟩ (.int .u8 (x.toNat : Int))) b (l.set i x) := by
  refine ⟨fun j hj => ?_, fun j hj => by rw [World.frozen?_setCell]; exact h.frozen j (by simpa using hj)⟩
  rw [List.length_set] at hj
  by_cases e : i = j
  · subst e
    rw [World.cell?_setCell_same _ _ _ (h.cell i hj), List.getElem?_set_self hj]
    rfl
  · rw [World.cell?_setCell_other _ _ _ _ (by intro k; cases k; exact e rfl), List.getElem?_set_ne e]
    exact h.cell j hj
theorem Byts.sets {w : World} {b : Nat} {l : List UInt8} (h : Byts w b l) (o : Nat) (t : List UInt8) (ho : o + t.length ≤ l.length) : Byts (w.setCells b o (t.map fun x => Value.int .u8 (x.toNat : Int))) b (l.take o ++ t ++ l.drop (o + t.length)) := by
  have hl : (l.take o ++ t ++ l.drop (o + t.length)).length = l.length := by simp; omega
  refine ⟨fun j hj => ?_, fun j hj => by rw [World.frozen?_setCells]; exact h.frozen j (by omega)⟩
  rw [hl] at hj
  by_cases h1 : o ≤ j ∧ j < o + t.length
  · have := World.cell?_setCells_in b (t.map fun x => Value.int .u8 (x.toNat : Int)) o w (fun j hj => by rw [List.length_map] at hj; rw [h.cell (o + j) (by omega)]; rfl) (j - o) (by rw [List.length_map]; omega)
    rw [show o + (j - o) = j by omega] at this
    rw [this, List.getElem_map, List.append_assoc, List.getElem?_append_right (by rw [List.length_take]; omega), List.getElem?_append_left (by rw [List.length_take]; omega), List.length_take, show min o l.length = o by omega, List.getElem?_eq_getElem (by omega)]
    rfl
  · rw [World.cell?_setCells_out b _ o w _ (fun _ _ => by rw [List.length_map]; show j < o ∨ _ ≤ j; omega), h.cell j hj]
    congr 4
    have hl2 : (l.take o ++ t).length = o + t.length := by simp; omega
    by_cases h2 : j < o
    · rw [List.append_assoc, List.getElem?_append_left (by rw [List.length_take]; omega), List.getElem?_take, if_pos h2]
    · rw [List.getElem?_append_right (by omega), List.getElem?_drop, hl2, show o + t.length + (j - (o + t.length)) = j by omega]
theorem byts_world (w : World) (e : TypeId) (s : ByteArray) : Byts (Lib.bytesWorld w e s) w.heap.size s.data.toList := by
  refine ⟨fun j hj => ?_, fun j hj => ?_⟩
  · rw [Lib.bytesWorld_cell w e s j (by rw [Lib.size_eq]; exact hj), List.getD_eq_getElem?_getD]
  · unfold World.frozen?
    rw [Lib.bytesWorld_at_new]
    have hz : s.data.toList.length ≤ (Lib.bytesCells w e s).size := by simp [Lib.bytesCells]
    simp
    omega
theorem Byts.below {w w1 : World} {b : Nat} {l : List UInt8} (h : Byts w b l) (hb : Below w.heap.size w w1) (hl : b < w.heap.size) : Byts w1 b l :=
  ⟨fun j hj => (hb.cell (p := ⟨b, j, none⟩) hl).trans (h.cell j hj), fun j hj => (hb.frozen (p := ⟨b, j, none⟩) hl).trans (h.frozen j hj)⟩
theorem Byts.lt {w : World} {b : Nat} {l : List UInt8} (h : Byts w b l) (h0 : 0 < l.length) : b < w.heap.size := World.block_lt_of_cell? w _ (h.cell 0 h0)
theorem convert_byts {P : Program} (W : World) (src dst e : TypeId) (z : ByteArray) (hs : P.underlying src = some .string) (hd : P.underlying dst = some (.slice e)) (he : P.underlying e = some (.int .u8)) :
    ∃ cp W1, z.size ≤ cp ∧ Byts W1 W.heap.size z.data.toList ∧ Below W.heap.size W W1 ∧ (convert src dst (.string z)).run P W = .ok (.slice (some ⟨W.heap.size, 0, none⟩) z.size cp) W1 :=
  ⟨_, _, grownCap_ge .., byts_world W e z, Lib.bytesWorld_below W e z, Lib.run_convert_string_bytes (P := P) W src dst e z (u := .string) hs hd he⟩
theorem wpList_copy_byts {P : Program} {w : World} {ops : Array Oper} {rest : List Oper} {o : Oper} {a : Act} {Q : Exit → Act → World → Prop} (hgd : o.guard = none) (d x : Operand) (dT sT : TypeId)
    (ho : o.op = .call { callee := .builtin .copy, args := #[d, x], argTypes := #[dT, sT] }) (elem : TypeId) (hu : P.underlying dT = some (.slice elem)) (hz : ∀ w, (Go.sizeOf elem).run P w = .ok 1 w)
    (b off dLen dCap : Nat) (hd : a.eval d = .slice (some ⟨b, off, none⟩) dLen dCap) (t : ByteArray) (hx : a.eval x = .string t) (l : List UInt8) (hB : Byts w b l) (hle : t.size ≤ dLen) (hl : off + t.size ≤ l.length)
    (h : ∀ w', Byts w' b (l.take off ++ t.data.toList ++ l.drop (off + t.data.toList.length)) → (∀ B W, B ≤ b → Below B W w → Below B W w') → wpList P ops Q rest (a.put o.dst (goInt t.size)) w') : wpList P ops Q (o :: rest) a w := by
  refine wpList_plain hgd fun K hK => ?_
  have hrun := run_copy_string (P := P) w dT sT o.type elem b off dLen dCap t hu hz hle (fun j hj => by rw [hB.cell (off + j) (by omega)]; rfl) (fun j hj => hB.frozen (off + j) (by omega))
  unfold Oper.wp
  simp [execOp, ho, resolve, invoke, builtin, hd, hx, hrun, Result.andThen]
  exact hK _ _ (h _ (hB.sets off t.data.toList (by rw [← Lib.size_eq]; exact hl)) (fun B W hb hw => below_setCells hb _ _ _ hw))
theorem step_copy_byts {P : Program} {ops : Array Oper} {o : Oper} {a : Act} {w : World} {K : Act → World → Prop} {Q : Exit → Act → World → Prop} {E : Prop}
    (hgd : o.guard = none) (d x : Operand) (dT sT : TypeId)
    (ho : o.op = .call { callee := .builtin .copy, args := #[d, x], argTypes := #[dT, sT] }) (elem : TypeId) (hu : P.underlying dT = some (.slice elem)) (hz : ∀ w, (Go.sizeOf elem).run P w = .ok 1 w)
    (b off dLen dCap : Nat) (hd : a.eval d = .slice (some ⟨b, off, none⟩) dLen dCap) (t : ByteArray) (hx : a.eval x = .string t) (l : List UInt8) (hB : Byts w b l) (hle : t.size ≤ dLen) (hl : off + t.size ≤ l.length)
    (h : ∀ w', Byts w' b (l.take off ++ t.data.toList ++ l.drop (off + t.data.toList.length)) → (∀ B W, B ≤ b → Below B W w → Below B W w') → K (a.put o.dst (goInt t.size)) w') : if Region.wanted o (yielded ops a.tmps) = true then Oper.wp P o a w K Q else E :=
  step_copy_string hgd d x dT sT ho elem hu hz b off dLen dCap hd t hx hle (fun j hj => by rw [hB.cell (off + j) (by omega)]; rfl) (fun j hj => hB.frozen (off + j) (by omega))
    (h _ (hB.sets off t.data.toList (by rw [← Lib.size_eq]; exact hl)) (fun B W hb hw => below_setCells hb _ _ _ hw))
theorem convert_back {P : Program} (W : World) (src e dst : TypeId) (b n cap : Nat) (l : List UInt8) (hB : Byts W b l) (hn : l.length = n) (hs : P.underlying src = some (.slice e)) (he : P.underlying e = some (.int .u8)) (hd : P.underlying dst = some .string) :
    (convert src dst (.slice (some ⟨b, 0, none⟩) n cap)).run P W = .ok (.string ⟨l.toArray⟩) W := by
  rw [← Lib.Lz.strOfNums_map]
  exact run_convert_bytes_arg (P := P) W src e hs he b 0 n cap _ (by rw [List.length_map, hn]) (fun j hj => by rw [Nat.zero_add, hB.cell j (by omega), Lib.Lz.getD_map]) dst hd
def lineL (c : UInt8) (d : List UInt8) (n : Nat) : List UInt8 := c :: d ++ List.replicate (71 - d.length) 32 ++ num8 n
def record_Line.f (a0 : Int) (a1 : ByteArray) (a2 : Int) : Option (ByteArray × Bool) :=
  if (a0 = 32 ∨ a0 = 88 ∨ a0 = 42) ∧ plainL a1.data.toList = true ∧ a1.size ≤ 71 ∧ 0 ≤ a2 then (if a2 ≤ 9223372036854775807 then some (⟨(lineL (UInt8.ofNat a0.toNat) a1.data.toList a2.toNat).toArray⟩, true) else none) else some (⟨#[]⟩, false)
theorem repeatL_one (x : UInt8) : ∀ n, Lib.repeatL [x] n = List.replicate n x
  | 0 => rfl
  | n + 1 => by rw [Lib.repeatL, repeatL_one x n, List.replicate_succ]; rfl
set_option maxRecDepth 100000 in
set_option maxHeartbeats 4000000 in
theorem record_Line.walk (c : UInt8) (a1 : ByteArray) (a2 : Int) (w : World) (hT : Tabs w) (hm : record_marked.f (c.toNat : Int) = some true) (hp : plainL a1.data.toList = true) (hs : a1.size ≤ 71) (h0 : 0 ≤ a2) (h1 : a2 ≤ 9223372036854775807) :
    Calls Tryd.prog 10 #[.int .u8 (c.toNat : Int), .string a1, .int .i64 a2] w fun e w' => e = .returned (.tuple #[.string ⟨(lineL c a1.data.toList a2.toNat).toArray⟩, .bool true]) ∧ Below w.heap.size w w' := by
  have b1 : (71 < a1.size) = False := eq_false (by omega)
  have b2 : decide (a2 < 0) = false := decide_eq_false (by omega)
  have C1 : ∀ W, Tabs W → _ := fun W hW => record_marked.calls _ _ W hW hm
  have C2 : ∀ W, Tabs W → Calls Tryd.prog 21 #[.string a1] W fun e w' => e = .returned (.bool true) ∧ Below W.heap.size W w' := fun W hW => record_plain.calls a1 true W hW (by unfold record_plain.f; rw [hp])
  obtain ⟨z, hz⟩ : ∃ z : ByteArray, z = ⟨(List.replicate 80 (32 : UInt8)).toArray⟩ := ⟨_, rfl⟩
  have hzl : z.size = 80 := by rw [hz]; rfl
  have C3 : ∀ W, Tabs W → Calls Tryd.prog 22 #[.string ⟨#[32]⟩, .int .i64 80] W fun e w' => e = .returned (.string z) ∧ Below W.heap.size W w' := fun W hW => by
    refine strings_Repeat.calls _ _ _ W hW ?_
    unfold strings_Repeat.f
    rw [if_pos ⟨by decide, by decide, by decide⟩, hz, show (80 : Int).toNat = 80 from rfl, show (⟨#[32]⟩ : ByteArray).data.toList = [32] from rfl, repeatL_one]
  obtain ⟨t, ht⟩ : ∃ t : ByteArray, t = ⟨(num8 a2.toNat).toArray⟩ := ⟨_, rfl⟩
  have htl : t.size = 8 := by rw [ht]; exact num8_length _
  have C4 : ∀ W, Tabs W → Calls Tryd.prog 23 #[.int .i64 a2] W fun e w' => e = .returned (.string t) ∧ Below W.heap.size W w' := fun W hW => by
    refine record_number.calls _ _ W hW ?_
    unfold record_number.f
    rw [if_pos ⟨h0, h1⟩, ht]
  have hfin : Aside0 (((z.data.toList.set 0 c).take 1 ++ a1.data.toList ++ (z.data.toList.set 0 c).drop (1 + a1.data.toList.length)).take 72 ++ t.data.toList ++ ((z.data.toList.set 0 c).take 1 ++ a1.data.toList ++ (z.data.toList.set 0 c).drop (1 + a1.data.toList.length)).drop (72 + t.data.toList.length) = lineL c a1.data.toList a2.toNat) := by
    refine Aside0.mk ?_
    have hm1 : a1.data.toList.length ≤ 71 := by rw [← Lib.size_eq]; exact hs
    have ht8 : t.data.toList.length = 8 := by rw [← Lib.size_eq]; exact htl
    have et : t.data.toList = num8 a2.toNat := by rw [ht]
    have ez : z.data.toList.set 0 c = c :: List.replicate 79 32 := by rw [hz]; rfl
    rw [ez, ht8]
    have e1 : List.take 1 (c :: List.replicate 79 (32 : UInt8)) ++ a1.data.toList ++ List.drop (1 + a1.data.toList.length) (c :: List.replicate 79 (32 : UInt8)) = (c :: a1.data.toList ++ List.replicate (71 - a1.data.toList.length) 32) ++ List.replicate 8 32 := by
      rw [Nat.add_comm 1, List.drop_succ_cons, List.drop_replicate, show 79 - a1.data.toList.length = (71 - a1.data.toList.length) + 8 by omega, ← List.replicate_append_replicate]
      simp
    have e2 : (c :: a1.data.toList ++ List.replicate (71 - a1.data.toList.length) 32).length = 72 := by simp; omega
    rw [e1, List.take_append_of_le_length (by omega), List.take_of_length_le (by omega), List.drop_eq_nil_of_le (by rw [List.length_append, e2]; simp), List.append_nil, et]
    rfl
  have hR0 : (lineL c a1.data.toList a2.toNat).length = 80 := by
    unfold lineL
    simp [num8_length]
    try rw [← Lib.size_eq]
    omega
  obtain ⟨R, hR', hR⟩ : ∃ R, R = lineL c a1.data.toList a2.toNat ∧ R.length = 80 := ⟨_, rfl, hR0⟩
  rw [← hR'] at hfin ⊢
  clear hR' hR0
  clear hz ht hp hm
  have hl1 : a1.data.toList.length = a1.size := (Lib.size_eq a1).symm
  have hl2 : t.data.toList.length = 8 := by rw [← Lib.size_eq]; exact htl
  obtain ⟨zl, hzl', hz1⟩ : ∃ zl, zl = z.data.toList ∧ zl.length = 80 := ⟨_, rfl, by rw [← Lib.size_eq]; exact hzl⟩
  rw [← hzl'] at hfin
  have hC : ∀ W : World, ∃ cp W1, 80 ≤ cp ∧ Byts W1 W.heap.size zl ∧ Below W.heap.size W W1 ∧ (convert 9 40 (.string z)).run Tryd.prog W = .ok (.slice (some ⟨W.heap.size, 0, none⟩) 80 cp) W1 := fun W => by
    have := convert_byts (P := Tryd.prog) W 9 40 5 z Tryd.underlying9 Tryd.underlying40 Tryd.underlying5
    rwa [hzl, ← hzl'] at this
  clear hzl' hzl
  go_enter Tryd.func10, Tryd.ntmps10
  go_wp2_with (first
    | (go_at_call 20; (with_reducible refine (C1 _ ?side1).mono ?_); (case side1 => exact hT); rintro e w1 ⟨rfl, hb1⟩)
    | (go_at_call 21; (with_reducible refine (C2 _ ?side1).mono ?_); (case side1 => exact Tabs.below hT hb1.below); rintro e w2 ⟨rfl, hb2⟩)
    | (go_at_call 22; (with_reducible refine (C3 _ ?side1).mono ?_); (case side1 => exact Tabs.below (Tabs.below hT hb1.below) hb2); rintro e w3 ⟨rfl, hb3⟩
       obtain ⟨cp, w4, hcp, hB4, hb4, hcv⟩ := hC w3
       have hc4 := hB4.cell 0 (by omega)
       have hf4 := hB4.frozen 0 (by omega)
       have hB5 := hB4.set 0 c
       have hb5 : Below w3.heap.size w3 (w4.setCell ⟨w3.heap.size, 0, none⟩ (.int .u8 (c.toNat : Int))) := hb4.setCell (Nat.le_refl _) _)
    | (refine wpList_copy_byts rfl (.tmp 32) (.tmp 33) 40 9 rfl 5 Tryd.underlying40 (fun w => by kernel_rfl) w3.heap.size 1 79 (cp - 1) (by simp [Act.eval, Act.put]) a1 (by simp [Act.eval, Act.put]) _ hB5 (by omega) (by rw [List.length_set]; omega) ?_; intro w6 hB6 hb6'))
  have hw3 : Below w.heap.size w w3 := (hb1.below.trans (hb2.mono hb1.below.size)).trans (hb3.mono (Nat.le_trans hb1.below.size hb2.size))
  have hw6 : Below w.heap.size w w6 := hw3.trans (hb6' _ _ hw3.size (hb5.mono hw3.size))
  have hT6 : Tabs w6.drew := (Tabs.below hT hw6).drew
  have hl6 : (List.take 1 (zl.set 0 c) ++ a1.data.toList ++ List.drop (1 + a1.data.toList.length) (zl.set 0 c)).length = 80 := by simp; omega
  have hlt6 : w3.heap.size < w6.heap.size := hB6.lt (by omega)
  go_region_law (first
    | (refine step_copy_byts rfl (.tmp 36) (.tmp 38) 40 9 rfl 5 Tryd.underlying40 (fun w => by kernel_rfl) w3.heap.size 72 8 (cp - 72) (by simp [Act.eval, Act.put]) t (by simp [Act.eval, Act.put]) _ hB7 (by omega) (by omega) ?_; intro w8 hB8 hb8'; have hcv8 := convert_back (P := Tryd.prog) w8 40 5 9 w3.heap.size 80 cp _ hB8 (by rw [hfin.out]; exact hR) Tryd.underlying40 Tryd.underlying5 Tryd.underlying9; rw [hfin.out] at hcv8)
    | (go_simp; go_wp2_with (go_at_call 23; (with_reducible refine (C4 _ ?side1).mono ?_); (case side1 => exact hT6); rintro e w7 ⟨rfl, hb7⟩; have hB7 := hB6.drew.below hb7 hlt6; have hw7 : Below w.heap.size w w7 := hw6.drew.trans (hb7.mono hw6.size))))
  go_wp2
  go_ret2
  exact ⟨rfl, hb8' _ _ hw3.size hw7⟩
set_option maxRecDepth 100000 in
set_option maxHeartbeats 4000000 in
theorem record_Line.none_mark (a0 : Int) (a1 : ByteArray) (a2 : Int) (w : World) (hT : Tabs w) (hm : record_marked.f a0 = some false) :
    Calls Tryd.prog 10 #[.int .u8 a0, .string a1, .int .i64 a2] w fun e w' => e = .returned (.tuple #[.string ⟨#[]⟩, .bool false]) ∧ Below w.heap.size w w' := by
  have C1 : ∀ W, Tabs W → _ := fun W hW => record_marked.calls _ _ W hW hm
  clear hm
  go_enter Tryd.func10, Tryd.ntmps10
  go_wp2_with (go_at_call 20; (with_reducible refine (C1 _ ?side1).mono ?_); (case side1 => exact hT); rintro e w1 ⟨rfl, hb1⟩)
  go_ret2
  exact ⟨rfl, hb1.below⟩
set_option maxRecDepth 100000 in
set_option maxHeartbeats 4000000 in
theorem record_Line.none_else (a0 : Int) (a1 : ByteArray) (a2 : Int) (w : World) (hT : Tabs w) (hm : record_marked.f a0 = some true) (p q : Bool) (hp : plainL a1.data.toList = p) (hq : (decide (71 < (a1.size : Int)) || decide (a2 < 0)) = q) (hn : p = false ∨ q = true) :
    Calls Tryd.prog 10 #[.int .u8 a0, .string a1, .int .i64 a2] w fun e w' => e = .returned (.tuple #[.string ⟨#[]⟩, .bool false]) ∧ Below w.heap.size w w' := by
  have C1 : ∀ W, Tabs W → _ := fun W hW => record_marked.calls _ _ W hW hm
  have C2 : ∀ W, Tabs W → Calls Tryd.prog 21 #[.string a1] W fun e w' => e = .returned (.bool p) ∧ Below W.heap.size W w' := fun W hW => record_plain.calls a1 p W hW (by unfold record_plain.f; rw [hp])
  clear hm hp
  cases p with
  | false =>
    clear hq hn
    go_enter Tryd.func10, Tryd.ntmps10
    go_wp2_with (first | (go_at_call 20; (with_reducible refine (C1 _ ?side1).mono ?_); (case side1 => exact hT); rintro e w1 ⟨rfl, hb1⟩) | (go_at_call 21; (with_reducible refine (C2 _ ?side1).mono ?_); (case side1 => exact Tabs.below hT hb1.below); rintro e w2 ⟨rfl, hb2⟩))
    go_ret2
    exact ⟨rfl, hb1.below.trans (hb2.mono hb1.below.size)⟩
  | true =>
    have hq' : q = true := by rcases hn with h | h; cases h; exact h
    subst hq'
    clear hn
    by_cases h7 : 71 < (a1.size : Int)
    · have h8 : decide (71 < (a1.size : Int)) = true := decide_eq_true h7
      clear hq
      go_enter Tryd.func10, Tryd.ntmps10
      go_wp2_with (first | (go_at_call 20; (with_reducible refine (C1 _ ?side1).mono ?_); (case side1 => exact hT); rintro e w1 ⟨rfl, hb1⟩) | (go_at_call 21; (with_reducible refine (C2 _ ?side1).mono ?_); (case side1 => exact Tabs.below hT hb1.below); rintro e w2 ⟨rfl, hb2⟩))
      go_ret2
      exact ⟨rfl, hb1.below.trans (hb2.mono hb1.below.size)⟩
    · have h8 : decide (71 < (a1.size : Int)) = false := decide_eq_false h7
      have h9 : decide (a2 < 0) = true := by rw [h8] at hq; simpa using hq
      have h10 : a2 < 0 := of_decide_eq_true h9
      clear hq
      go_enter Tryd.func10, Tryd.ntmps10
      go_wp2_with (first | (go_at_call 20; (with_reducible refine (C1 _ ?side1).mono ?_); (case side1 => exact hT); rintro e w1 ⟨rfl, hb1⟩) | (go_at_call 21; (with_reducible refine (C2 _ ?side1).mono ?_); (case side1 => exact Tabs.below hT hb1.below); rintro e w2 ⟨rfl, hb2⟩))
      go_ret2
      exact ⟨rfl, hb1.below.trans (hb2.mono hb1.below.size)⟩
theorem record_Line.calls (a0 : Int) (a1 : ByteArray) (a2 : Int) (r0 : ByteArray) (r1 : Bool) (w : World) (hT : Tabs w) (h : record_Line.f a0 a1 a2 = some (r0, r1)) :
    Calls Tryd.prog 10 #[.int .u8 a0, .string a1, .int .i64 a2] w fun e w' => e = .returned (.tuple #[.string r0, .bool r1]) ∧ Below w.heap.size w w' := by
  have hm : ∃ b, record_marked.f a0 = some b ∧ (b = true ↔ a0 = 32 ∨ a0 = 88 ∨ a0 = 42) := by
    unfold record_marked.f
    by_cases m1 : a0 = 32
    · exact ⟨true, if_pos m1, by simp [m1]⟩
    · by_cases m2 : a0 = 88
      · exact ⟨true, by rw [if_neg m1, if_pos m2], by simp [m2]⟩
      · exact ⟨a0 == 42, by rw [if_neg m1, if_neg m2], by simp [m1, m2]⟩
  obtain ⟨b, hb, hbi⟩ := hm
  unfold record_Line.f at h
  by_cases h0 : (a0 = 32 ∨ a0 = 88 ∨ a0 = 42) ∧ plainL a1.data.toList = true ∧ a1.size ≤ 71 ∧ 0 ≤ a2
  · rw [if_pos h0] at h
    by_cases h1 : a2 ≤ 9223372036854775807
    · rw [if_pos h1] at h
      obtain ⟨rfl, rfl⟩ := Prod.mk.inj (Option.some.inj h)
      obtain ⟨c, hc⟩ : ∃ c : UInt8, a0 = (c.toNat : Int) := by
        rcases h0.1 with k | k | k
        · exact ⟨32, k⟩
        · exact ⟨88, k⟩
        · exact ⟨42, k⟩
      subst hc
      rw [hbi.2 h0.1] at hb
      rw [show UInt8.ofNat (c.toNat : Int).toNat = c by rw [Int.toNat_natCast, UInt8.ofNat_toNat]]
      exact record_Line.walk c a1 a2 w hT hb h0.2.1 h0.2.2.1 h0.2.2.2 h1
    · rw [if_neg h1] at h
      cases h
  · rw [if_neg h0] at h
    obtain ⟨rfl, rfl⟩ := Prod.mk.inj (Option.some.inj h)
    cases b with
    | false => exact record_Line.none_mark a0 a1 a2 w hT hb
    | true =>
      refine record_Line.none_else a0 a1 a2 w hT hb _ _ rfl rfl ?_
      have := hbi.1 rfl
      by_cases p : plainL a1.data.toList = true
      · right
        rw [Bool.or_eq_true, decide_eq_true_eq, decide_eq_true_eq]
        rcases Nat.lt_or_ge 71 a1.size with k | k
        · left; omega
        · right
          rcases Int.lt_or_le a2 0 with k2 | k2
          · exact k2
          · exact absurd ⟨this, p, k, k2⟩ h0
      · left
        simpa using p

/-! ### record_Read: function 12 -/
def record_Read.j0 : Nat → ByteArray → Int → Bool → Option (Int × ByteArray × Bool)
  | 0, _, _, _ => none
  | k + 1, x0, x1, x22 => if x22 = true then (some (0, (⟨#[]⟩ : ByteArray), false)) else (if 1 ≤ 72 then (if 72 ≤ (x0.size : Int) then (if 0 < (x0.size : Int) then ((record_Line.f (bt x0 0) (x0.extract 1 72) x1).bind fun bt102 => (if bt102.2 = true then (if bt102.1.toList = x0.toList then (some (bt x0 0, x0.extract 1 72, true)) else (some (0, (⟨#[]⟩ : ByteArray), false))) else (some (0, (⟨#[]⟩ : ByteArray), false)))) else (none)) else (none)) else (none))
def record_Read.f (k : Nat) (a0 : ByteArray) (a1 : Int) : Option (Int × ByteArray × Bool) := if (a0.size : Int) = 80 then (if 0 < (a0.size : Int) then ((record_marked.f (bt a0 0)).bind fun t101 => (if t101 = true then (record_Read.j0 k a0 a1 (decide (a1 < 0))) else (record_Read.j0 k a0 a1 true))) else (none)) else (record_Read.j0 k a0 a1 true)
theorem record_Read.mono_l : ∀ k, (∀ y0 y1 y2, LeO (record_Read.j0 k y0 y1 y2) (record_Read.j0 (k + 1) y0 y1 y2))
  | 0 => fun _ _ _ r h => by simp [record_Read.j0] at h
  | k + 1 => by
    have ih0 := record_Read.mono_l k
    · intro y0 y1 y2
      unfold record_Read.j0
      repeat' first
      | (with_reducible exact ih0 _ _ _)
      | (with_reducible exact LeO.refl _)
      | (with_reducible exact LeO.none _)
      | (with_reducible refine LeO.ite ?_ ?_)
      | (with_reducible refine LeO.bind ?_ (fun _ => ?_))
      | exact ih0 _ _ _
      | exact LeO.none _
      | refine LeO.ite ?_ ?_
      | refine LeO.bind ?_ (fun _ => ?_)
theorem record_Read.mono : ∀ a0 a1 k, LeO (record_Read.f k a0 a1) (record_Read.f (k + 1) a0 a1) := by
  intro a0 a1 k
  have ih0 := record_Read.mono_l k
  unfold record_Read.f
  repeat' first
      | (with_reducible exact ih0 _ _ _)
      | (with_reducible exact LeO.refl _)
      | (with_reducible exact LeO.none _)
      | (with_reducible refine LeO.ite ?_ ?_)
      | (with_reducible refine LeO.bind ?_ (fun _ => ?_))
      | exact ih0 _ _ _
      | exact LeO.none _
      | refine LeO.ite ?_ ?_
      | refine LeO.bind ?_ (fun _ => ?_)
set_option maxHeartbeats 8000000 in
set_option maxRecDepth 100000 in
theorem record_Read.calls (k : Nat) (a0 : ByteArray) (a1 : Int) (r1 : Int) (r2 : ByteArray) (r3 : Bool) (w : World) (hT : Tabs w) (h : record_Read.f k a0 a1 = some (r1, r2, r3)) :
    Calls Tryd.prog 12 #[.string a0, .int .i64 a1] w fun e w' => e = .returned (.tuple #[.int .u8 r1, .string r2, .bool r3]) ∧ Below w.heap.size w w' := by
  have HB := Aside0.mk (Below.refl w.heap.size w)
  have H : (if (a0.size : Int) = 80 then (if 0 < (a0.size : Int) then ((record_marked.f (bt a0 0)).bind fun t101 => (if t101 = true then (record_Read.j0 k a0 a1 (decide (a1 < 0))) else (record_Read.j0 k a0 a1 true))) else (none)) else (record_Read.j0 k a0 a1 true)) = some (r1, r2, r3) := h
  clear h
  have HC3 := Aside0.mk H
  clear H
  go_enter Tryd.func12, Tryd.ntmps12
  go_upto_region 1 with (fail)
  go_cut [22] (fun v22 wc => ∃ (kq : Nat) (x22_2 : Bool), v22 = .bool x22_2 ∧ Aside0 (record_Read.j0 kq a0 a1 x22_2 = some (r1, r2, r3)) ∧ Aside0 (kq ≤ k) ∧ Aside0 (Below w.heap.size w wc))
  case first =>
    have H := HC3.out
    clear HC3
    by_cases c4 : (a0.size : Int) = 80
    · rw [if_pos c4] at H
      have c4b0 : ((a0.size : Int) == 80) = true := beq_iff_eq.mpr c4
      have c4b1 : ((a0.size : Int) != 80) = false := bne_eq_false_iff_eq.mpr c4
      clear c4
      (first | rw [c4b0] | (simp only [i64_w, i32_w]; rw [c4b0]) | skip)
      by_cases c5 : 0 < (a0.size : Int)
      · rw [if_pos c5] at H
        have c5b0 : decide (0 < (a0.size : Int)) = true := decide_eq_true c5
        have c5b1 : decide (0 < a0.size) = true := decide_eq_true (by omega)
        clear c5
        replace H := Option.bind_eq_some_iff.mp H
        obtain ⟨t101, A70, H⟩ := H
        have A7 := Aside0.mk A70; clear A70
        by_cases c8 : t101 = true
        · subst c8
          rw [if_pos rfl] at H
          have H' := Aside0.mk H
          clear H
          have p6 : 0 ≤ (0 : Int) := (by omega)
          have q6 : 0 < a0.size := (by have : (0 : Int) < (a0.size : Int) := of_decide_eq_true (by first | (with_reducible assumption) | assumption); omega)
          have hx6 : ∀ h : 0 < a0.size, ((a0[0]'h).toNat : Int) = bt a0 0 := bt_at a0 0
          clear p6
          have qi6 : (0 < (a0.size : Int)) = True := eq_true (of_decide_eq_true (by first | (with_reducible assumption) | assumption))
          replace q6 := eq_true q6
          go_wp2_with (first | (go_at_call 20; (with_reducible refine (record_marked.calls (bt a0 0) true _ ?side1 A7.out).mono ?_); (case side1 => first | exact hT | exact Tabs.below hT (by repeat (first | (with_reducible first | exact HB.out | apply below_alloc | apply pw_below_drewN | apply below_drew1) | exact HB.out)) | ((repeat (first | exact hT | apply Tabs.drewN | apply Tabs.drew)); done)); rintro e w' ⟨rfl, ⟨nd, rfl⟩⟩))
          go_meet
          case rel => exact ⟨_, (decide (a1 < 0)), (by first | rfl | (simp; done) | (simp [*]; done)), H', ⟨by first | omega | exact Nat.le_refl _⟩, ⟨by repeat (first | (with_reducible first | exact HB.out | apply below_alloc | apply pw_below_drewN | apply below_drew1) | exact HB.out)⟩⟩
        · replace c8 := Bool.eq_false_iff.mpr c8
          subst c8
          rw [if_neg (show ¬ (false = true) by decide)] at H
          have H' := Aside0.mk H
          clear H
          have p6 : 0 ≤ (0 : Int) := (by omega)
          have q6 : 0 < a0.size := (by have : (0 : Int) < (a0.size : Int) := of_decide_eq_true (by first | (with_reducible assumption) | assumption); omega)
          have hx6 : ∀ h : 0 < a0.size, ((a0[0]'h).toNat : Int) = bt a0 0 := bt_at a0 0
          clear p6
          have qi6 : (0 < (a0.size : Int)) = True := eq_true (of_decide_eq_true (by first | (with_reducible assumption) | assumption))
          replace q6 := eq_true q6
          go_wp2_with (first | (go_at_call 20; (with_reducible refine (record_marked.calls (bt a0 0) false _ ?side1 A7.out).mono ?_); (case side1 => first | exact hT | exact Tabs.below hT (by repeat (first | (with_reducible first | exact HB.out | apply below_alloc | apply pw_below_drewN | apply below_drew1) | exact HB.out)) | ((repeat (first | exact hT | apply Tabs.drewN | apply Tabs.drew)); done)); rintro e w' ⟨rfl, ⟨nd, rfl⟩⟩))
          go_meet
          case rel => exact ⟨_, (true), (by first | rfl | (simp; done) | (simp [*]; done)), H', ⟨by first | omega | exact Nat.le_refl _⟩, ⟨by repeat (first | (with_reducible first | exact HB.out | apply below_alloc | apply pw_below_drewN | apply below_drew1) | exact HB.out)⟩⟩
      · rw [if_neg c5] at H
        exact absurd H (by simp)
    · rw [if_neg c4] at H
      have c4b0 : ((a0.size : Int) == 80) = false := beq_eq_false_iff_ne.mpr c4
      have c4b1 : ((a0.size : Int) != 80) = true := bne_iff_ne.mpr c4
      (first | rw [c4b0] | (simp only [i64_w, i32_w]; rw [c4b0]) | skip)
      have H' := Aside0.mk H
      clear H
      go_wp2
      go_meet
      case rel => exact ⟨_, (true), (by first | rfl | (simp; done) | (simp [*]; done)), H', ⟨by first | omega | exact Nat.le_refl _⟩, ⟨by repeat (first | (with_reducible first | exact HB.out | apply below_alloc | apply pw_below_drewN | apply below_drew1) | exact HB.out)⟩⟩
  case rest =>
    clear HC3
    try clear c1
    try clear p2
    try clear c4
    try clear c4b0
    try clear c4b1
    try clear c5
    try clear c5b0
    try clear c5b1
    try clear p6
    try clear q6
    try clear hx6
    try clear qi6
    try clear c8
    try clear p6
    try clear q6
    obtain ⟨kq, x22_2, rfl, HA, HJ2, HB⟩ := hcut
    cases kq with
    | zero => exact absurd HA.out (by simp [record_Read.j0])
    | succ kj2 =>
      have H := HA.out
      clear HA
      simp only [record_Read.j0] at H
      by_cases c9 : x22_2 = true
      · subst c9
        rw [if_pos rfl] at H
        simp only [Option.some.injEq, Prod.mk.injEq] at H
        obtain ⟨rfl, rfl, rfl⟩ := H
        go_wp2
        go_ret3
        exact ⟨by first | rfl | (simp [errW_none, errW_some] <;> rfl) | (simp [*, errW_none, errW_some] <;> rfl) | (simp [errW_none, errW_some, bne_nil_, beq_nil_]; done) | (simp [*, errW_none, errW_some, bne_nil_, beq_nil_]; done), by repeat (first | (with_reducible first | exact HB.out | apply below_alloc | apply pw_below_drewN | apply below_drew1) | exact HB.out)⟩
      · replace c9 := Bool.eq_false_iff.mpr c9
        subst c9
        rw [if_neg (show ¬ (false = true) by decide)] at H
        by_cases c10 : 1 ≤ 72
        · rw [if_pos c10] at H
          have c10b0 := eq_true c10
          have c10b1 : decide (1 ≤ 72) = true := decide_eq_true c10
          clear c10
          by_cases c11 : 72 ≤ (a0.size : Int)
          · rw [if_pos c11] at H
            have c11b0 := eq_true c11
            have c11b1 : decide (72 ≤ (a0.size : Int)) = true := decide_eq_true c11
            clear c11
            by_cases c12 : 0 < (a0.size : Int)
            · rw [if_pos c12] at H
              have c12b0 : decide (0 < (a0.size : Int)) = true := decide_eq_true c12
              have c12b1 : decide (0 < a0.size) = true := decide_eq_true (by omega)
              clear c12
              replace H := Option.bind_eq_some_iff.mp H
              obtain ⟨⟨t102, t103⟩, A140, H⟩ := H
              try dsimp only at H
              have A14 := Aside0.mk A140; clear A140
              by_cases c15 : t103 = true
              · subst c15
                rw [if_pos rfl] at H
                by_cases c16 : t102.toList = a0.toList
                · rw [if_pos c16] at H
                  have c16b0 : (t102.toList == a0.toList) = true := beq_iff_eq.mpr c16
                  have c16b1 : (t102.toList != a0.toList) = false := bne_eq_false_iff_eq.mpr c16
                  clear c16
                  simp only [Option.some.injEq, Prod.mk.injEq] at H
                  obtain ⟨rfl, rfl, rfl⟩ := H
                  have p13 : 0 ≤ (0 : Int) := (by omega)
                  have q13 : 0 < a0.size := (by have : (0 : Int) < (a0.size : Int) := of_decide_eq_true (by first | (with_reducible assumption) | assumption); omega)
                  have hx13 : ∀ h : 0 < a0.size, ((a0[0]'h).toNat : Int) = bt a0 0 := bt_at a0 0
                  clear p13
                  have qi13 : (0 < (a0.size : Int)) = True := eq_true (of_decide_eq_true (by first | (with_reducible assumption) | assumption))
                  replace q13 := eq_true q13
                  go_wp2_with (first | ((with_reducible refine gate_callee (f := 10) rfl ?_); refine goesL_ (some 30) rfl rfl Tryd.func10 (by kernel_rfl) rfl #[.int .u8 (bt a0 0), .string (a0.extract 1 72), .int .i64 a1] rfl (by (try simp only [List.map_toArray, List.map_cons, List.map_nil]); first | done | rfl | (simp only [List.length_drop, List.length_take]; rfl)) ?_; (with_reducible refine (record_Line.calls (bt a0 0) (a0.extract 1 72) a1 t102 true _ ?side1 A14.out).mono ?_); (case side1 => first | exact hT | exact Tabs.below hT (by repeat (first | (with_reducible first | exact HB.out | apply below_alloc | apply pw_below_drewN | apply below_drew1) | exact HB.out)) | ((repeat (first | exact hT | apply Tabs.drewN | apply Tabs.drew)); done)); rintro e w18 ⟨rfl, hb⟩; refine ⟨_, rfl, ?_⟩; have n0_ := Aside0.mk (below_step (by repeat (first | (with_reducible first | exact HB.out | apply below_alloc | apply pw_below_drewN | apply below_drew1) | exact HB.out)) hb); clear HB; have HB := n0_; clear n0_; (try clear hb); (try clear hb2); (try clear hk); (try clear hi); have p17 : 0 ≤ (0 : Int) := (by omega); have q17 : 0 < a0.size := (by have : (0 : Int) < (a0.size : Int) := of_decide_eq_true (by first | (with_reducible assumption) | assumption); omega); have hx17 : ∀ h : 0 < a0.size, ((a0[0]'h).toNat : Int) = bt a0 0 := bt_at a0 0; clear p17; have qi17 : (0 < (a0.size : Int)) = True := eq_true (of_decide_eq_true (by first | (with_reducible assumption) | assumption)); replace q17 := eq_true q17))
                  go_ret3
                  exact ⟨by first | rfl | (simp [errW_none, errW_some] <;> rfl) | (simp [*, errW_none, errW_some] <;> rfl) | (simp [errW_none, errW_some, bne_nil_, beq_nil_]; done) | (simp [*, errW_none, errW_some, bne_nil_, beq_nil_]; done), by repeat (first | (with_reducible first | exact HB.out | apply below_alloc | apply pw_below_drewN | apply below_drew1) | exact HB.out)⟩
                · rw [if_neg c16] at H
                  have c16b0 : (t102.toList == a0.toList) = false := beq_eq_false_iff_ne.mpr c16
                  have c16b1 : (t102.toList != a0.toList) = true := bne_iff_ne.mpr c16
                  simp only [Option.some.injEq, Prod.mk.injEq] at H
                  obtain ⟨rfl, rfl, rfl⟩ := H
                  have p13 : 0 ≤ (0 : Int) := (by omega)
                  have q13 : 0 < a0.size := (by have : (0 : Int) < (a0.size : Int) := of_decide_eq_true (by first | (with_reducible assumption) | assumption); omega)
                  have hx13 : ∀ h : 0 < a0.size, ((a0[0]'h).toNat : Int) = bt a0 0 := bt_at a0 0
                  clear p13
                  have qi13 : (0 < (a0.size : Int)) = True := eq_true (of_decide_eq_true (by first | (with_reducible assumption) | assumption))
                  replace q13 := eq_true q13
                  go_wp2_with (first | ((with_reducible refine gate_callee (f := 10) rfl ?_); refine goesL_ (some 30) rfl rfl Tryd.func10 (by kernel_rfl) rfl #[.int .u8 (bt a0 0), .string (a0.extract 1 72), .int .i64 a1] rfl (by (try simp only [List.map_toArray, List.map_cons, List.map_nil]); first | done | rfl | (simp only [List.length_drop, List.length_take]; rfl)) ?_; (with_reducible refine (record_Line.calls (bt a0 0) (a0.extract 1 72) a1 t102 true _ ?side1 A14.out).mono ?_); (case side1 => first | exact hT | exact Tabs.below hT (by repeat (first | (with_reducible first | exact HB.out | apply below_alloc | apply pw_below_drewN | apply below_drew1) | exact HB.out)) | ((repeat (first | exact hT | apply Tabs.drewN | apply Tabs.drew)); done)); rintro e w19 ⟨rfl, hb⟩; refine ⟨_, rfl, ?_⟩; have n0_ := Aside0.mk (below_step (by repeat (first | (with_reducible first | exact HB.out | apply below_alloc | apply pw_below_drewN | apply below_drew1) | exact HB.out)) hb); clear HB; have HB := n0_; clear n0_; (try clear hb); (try clear hb2); (try clear hk); (try clear hi)))
                  go_ret3
                  exact ⟨by first | rfl | (simp [errW_none, errW_some] <;> rfl) | (simp [*, errW_none, errW_some] <;> rfl) | (simp [errW_none, errW_some, bne_nil_, beq_nil_]; done) | (simp [*, errW_none, errW_some, bne_nil_, beq_nil_]; done), by repeat (first | (with_reducible first | exact HB.out | apply below_alloc | apply pw_below_drewN | apply below_drew1) | exact HB.out)⟩
              · replace c15 := Bool.eq_false_iff.mpr c15
                subst c15
                rw [if_neg (show ¬ (false = true) by decide)] at H
                simp only [Option.some.injEq, Prod.mk.injEq] at H
                obtain ⟨rfl, rfl, rfl⟩ := H
                have p13 : 0 ≤ (0 : Int) := (by omega)
                have q13 : 0 < a0.size := (by have : (0 : Int) < (a0.size : Int) := of_decide_eq_true (by first | (with_reducible assumption) | assumption); omega)
                have hx13 : ∀ h : 0 < a0.size, ((a0[0]'h).toNat : Int) = bt a0 0 := bt_at a0 0
                clear p13
                have qi13 : (0 < (a0.size : Int)) = True := eq_true (of_decide_eq_true (by first | (with_reducible assumption) | assumption))
                replace q13 := eq_true q13
                go_wp2_with (first | ((with_reducible refine gate_callee (f := 10) rfl ?_); refine goesL_ (some 30) rfl rfl Tryd.func10 (by kernel_rfl) rfl #[.int .u8 (bt a0 0), .string (a0.extract 1 72), .int .i64 a1] rfl (by (try simp only [List.map_toArray, List.map_cons, List.map_nil]); first | done | rfl | (simp only [List.length_drop, List.length_take]; rfl)) ?_; (with_reducible refine (record_Line.calls (bt a0 0) (a0.extract 1 72) a1 t102 false _ ?side1 A14.out).mono ?_); (case side1 => first | exact hT | exact Tabs.below hT (by repeat (first | (with_reducible first | exact HB.out | apply below_alloc | apply pw_below_drewN | apply below_drew1) | exact HB.out)) | ((repeat (first | exact hT | apply Tabs.drewN | apply Tabs.drew)); done)); rintro e w20 ⟨rfl, hb⟩; refine ⟨_, rfl, ?_⟩; have n0_ := Aside0.mk (below_step (by repeat (first | (with_reducible first | exact HB.out | apply below_alloc | apply pw_below_drewN | apply below_drew1) | exact HB.out)) hb); clear HB; have HB := n0_; clear n0_; (try clear hb); (try clear hb2); (try clear hk); (try clear hi)))
                go_ret3
                exact ⟨by first | rfl | (simp [errW_none, errW_some] <;> rfl) | (simp [*, errW_none, errW_some] <;> rfl) | (simp [errW_none, errW_some, bne_nil_, beq_nil_]; done) | (simp [*, errW_none, errW_some, bne_nil_, beq_nil_]; done), by repeat (first | (with_reducible first | exact HB.out | apply below_alloc | apply pw_below_drewN | apply below_drew1) | exact HB.out)⟩
            · rw [if_neg c12] at H
              exact absurd H (by simp)
          · rw [if_neg c11] at H
            exact absurd H (by simp)
        · rw [if_neg c10] at H
          exact absurd H (by simp)

end Go.Proofs.YtempfafkfkcelaaDoor.All
