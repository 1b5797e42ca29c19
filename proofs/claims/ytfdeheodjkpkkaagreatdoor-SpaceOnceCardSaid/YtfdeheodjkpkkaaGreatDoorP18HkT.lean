/- A walk of header.Text: a header's text, by a builder and a function that puts texts. Written by a program out of one way's text. -/
import Derived.Test.YtfdeheodjkpkkaaGreatDoorP18HkU
import Derived.Test.YtfdeheodjkpkkaaGreatDoorP18GShelfB
set_option linter.unusedVariables false
set_option linter.unusedSimpArgs false
set_option linter.unusedSectionVars false
namespace Go.Proofs.YtfdeheodjkpkkaaGreatDoor.All
open Go.RowKit Go.Proofs.YtfdeheodjkpkkaaGreatDoorW.PrintWords Go.Proofs.YtfdeheodjkpkkaaGreatDoorW.PrintLast Go.Proofs.YtfdeheodjkpkkaaGreatDoorW.PrintMore Go.Proofs.YtfdeheodjkpkkaaGreatDoor.G Go.Proofs.YtfdeheodjkpkkaaGreatDoor.Sp Go.Proofs.YtfdeheodjkpkkaaGreatDoor.Dm Go.Proofs.YtfdeheodjkpkkaaGreatDoor.Ba
set_option linter.unusedVariables false
set_option linter.unusedSimpArgs false
set_option maxHeartbeats 3000000
set_option maxRecDepth 1000000
abbrev BI (B b : Nat) (acc : ByteArray) (w : World) : Prop := Lib.IsBuilderF 84 5 B b (Lib.byteCells acc.data.toList) w
theorem cells_app (x y : ByteArray) : Lib.byteCells x.data.toList ++ Lib.strCells y = Lib.byteCells (x ++ y).data.toList := by
  have : Lib.strCells y = Lib.byteCells y.data.toList := by simp [Lib.strCells, Lib.byteCells]
  rw [this, ← Lib.byteCells_append]
  congr 1
theorem isE_eq (s : ByteArray) : seq s e0 = s.toList.isEmpty := by
  unfold seq
  rw [show e0.toList = [] from by rw [toList_eq]]
  cases s.toList <;> rfl
theorem put_any (B b : Nat) (acc s t : ByteArray) (w : World) (h : BI B b acc w) (hB : B ≤ w.heap.size) (hl : acc.size + s.size + t.size ≤ 140737488355328) :
    Calls Tryz.prog 201 #[.string s, .string t, .pointer (some ⟨b, 0, none⟩)] w fun e w' => e = .returned (.tuple #[]) ∧ BI B b (putB acc s t) w' ∧ Below B w w' := by
  have HI := Aside0.mk h
  have hse := isE_eq s
  have hsz : (acc.data.toList).length = acc.size := by rw [← size_data]
  clear h
  cases he : s.toList.isEmpty with
  | true =>
    have e : putB acc s t = acc := by unfold putB; rw [hse, he]; rfl
    rw [e]
    go_enter Tryz.func201, Tryz.ntmps201
    go_wp2
    go_end0
    exact ⟨rfl, HI.out, Below.refl _ _⟩
  | false =>
    have e : putB acc s t = acc ++ (s ++ t) := by unfold putB; rw [hse, he]; rfl
    rw [e]
    have hst : (s ++ t).size = s.size + t.size := by simp
    have hcat : ¬ ((s.size : Int) + t.size > 9223372036854775807) := by omega
    go_enter Tryz.func201, Tryz.ntmps201
    go_wp2_with (first | (go_at_call 82; (with_reducible refine (Tryz.Builder_WriteString_k B b _ (s ++ t) _ HI.out (by rw [Lib.byteCells_length, hsz, hst]; omega) hB).mono ?_); rintro e w2 ⟨rfl, h1, b1, k1⟩) | go_in)
    go_end0
    refine ⟨rfl, ?_, b1⟩
    rw [cells_app] at h1
    exact Or.inr h1
theorem putB_le (a s t : ByteArray) : (putB a s t).size ≤ a.size + s.size + t.size := by
  unfold putB
  split
  · omega
  · simp only [ByteArray.size_append]; omega
/-- The header's box, as it lies. -/
def Bx (b : Nat) (h : Hd) (A : Option Addr) (c : Nat) (W : World) : Prop := W.cell? ⟨b, 0, none⟩ = some (.string h.result) ∧ W.cell? ⟨b, 1, none⟩ = some (.string h.left) ∧ W.cell? ⟨b, 2, none⟩ = some (.string h.name) ∧ W.cell? ⟨b, 3, none⟩ = some (.string h.right) ∧ W.cell? ⟨b, 4, none⟩ = some (.string h.f) ∧ W.cell? ⟨b, 5, none⟩ = some (.string h.g) ∧ W.cell? ⟨b, 6, none⟩ = some (.slice A h.locals.length c)
theorem Bx.below {b : Nat} {h : Hd} {A : Option Addr} {c B : Nat} {W W1 : World} (hx : Bx b h A c W) (hb : Below B W W1) (hlt : b < B) : Bx b h A c W1 := by
  have e : W1.heap[b]? = W.heap[b]? := hb.block b hlt
  unfold Bx World.cell? at *
  simp only [e] at *
  exact hx
theorem put_any2 (B b : Nat) (acc s t : ByteArray) (w : World) (h : BI B b acc w) (hB : B ≤ w.heap.size) (hl : acc.size + s.size + t.size ≤ 140737488355328) :
    Calls Tryz.prog 201 #[.string s, .string t, .pointer (some ⟨b, 0, none⟩)] w fun e w' => e = .returned (.tuple #[]) ∧ ∃ acc2, acc2 = putB acc s t ∧ acc2.size ≤ acc.size + s.size + t.size ∧ BI B b acc2 w' ∧ Below B w w' :=
  (put_any B b acc s t w h hB hl).mono (fun e w' ⟨h1, h2, h3⟩ => ⟨h1, _, rfl, putB_le _ _ _, h2, h3⟩)
theorem sz_fold (l : List ByteArray) : ∀ n, l.foldl (fun n s => n + s.size + 1) n = n + l.foldl (fun n s => n + s.size + 1) 0 := by
  induction l with
  | nil => intro n; rfl
  | cons x l ih => intro n; rw [List.foldl_cons, List.foldl_cons, ih (n + x.size + 1), ih (0 + x.size + 1)]; omega
theorem text_p1x0 (h : Hd) (A : Option Addr) (c : Nat) (w : World) (hC : Kd.string.C w A h.locals.length h.locals) (hln : h.locals.length ≤ 1099511627776) (hsum : h.result.size + h.left.size + h.name.size + h.right.size + h.f.size + h.g.size + h.locals.foldl (fun n s => n + s.size + 1) 0 ≤ 100000000000000)
    (hR : ∀ W, Below w.heap.size w W → Calls Tryz.prog 200 #[.agg #[.string h.result, .string h.left, .string h.name, .string h.right, .string h.f, .string h.g, .slice A h.locals.length c]] W fun e w' => e = .returned (.bool (rightH h)) ∧ Below W.heap.size W w') (hr : rightH h = true) (hf : h.f.toList.isEmpty = true) (hrt : h.right.toList.isEmpty = false) :
    Calls Tryz.prog 159 #[.agg #[.string h.result, .string h.left, .string h.name, .string h.right, .string h.f, .string h.g, .slice A h.locals.length c]] w fun e w' => e = .returned (.string (textH h)) ∧ Below w.heap.size w w' := by
  have HC := Aside0.mk hC
  have HS := Aside0.mk hsum
  clear hC hsum
  rw [hr] at hR
  go_enter Tryz.func159, Tryz.ntmps159
  have z0 : (⟨#[]⟩ : ByteArray).size = 0 := rfl
  have ze : e0.size = 0 := rfl
  have zl : tLocal.size = 1 := rfl
  have z1 : (⟨#[226, 134, 144]⟩ : ByteArray).size = 3 := rfl
  have z2 : (⟨#[32]⟩ : ByteArray).size = 1 := rfl
  have z3 : (⟨#[40]⟩ : ByteArray).size = 1 := rfl
  have z4 : (⟨#[41]⟩ : ByteArray).size = 1 := rfl
  have z5 : (⟨#[59]⟩ : ByteArray).size = 1 := rfl
  have zs := HS.out
  have zf : ∀ (x : ByteArray) (n : Nat), n = x.size → x.size = n := fun _ _ h => h.symm
  clear zf
  go_wp2_with (first
    | (go_at_call 200; (with_reducible refine (hR _ ((Below.refl _ w).alloc (Nat.le_refl _) _)).mono ?_); rintro e w2 ⟨rfl, b1⟩
       have hX0 : Bx w.heap.size h A c w2 := by
         refine Bx.below (B := (w.alloc (.cells #[.string h.result, .string h.left, .string h.name, .string h.right, .string h.f, .string h.g, .slice A h.locals.length c] 112)).heap.size) (W := w.alloc (.cells #[.string h.result, .string h.left, .string h.name, .string h.right, .string h.f, .string h.g, .slice A h.locals.length c] 112)) ?_ b1 (by simp)
         unfold Bx World.cell?
         rw [heap_alloc_new]
         exact ⟨rfl, rfl, rfl, rfl, rfl, rfl, rfl⟩
       have hb02 : Below w.heap.size w w2 := ((Below.refl _ w).alloc (Nat.le_refl _) _).trans (b1.mono (by simp))
       have hlt2 : w.heap.size < w2.heap.size := by have := b1.size; simp at this; omega
       have HI : Aside0 (BI w2.heap.size w2.heap.size e0 (w2.alloc (.cells #[.pointer none, .slice none 0 0] 84))) := ⟨Lib.IsBuilderF.of (Lib.fresh_isBuilder 84 5 w2)⟩
       have HB : Aside0 (Below w2.heap.size w2 (w2.alloc (.cells #[.pointer none, .slice none 0 0] 84))) := ⟨(Below.refl _ w2).alloc (Nat.le_refl _) _⟩
       have HX := Aside0.mk hX0
       have HL := Aside0.mk hlt2
       have H02 := Aside0.mk hb02
       obtain ⟨c0, c1, c2, c3, c4, c5, c6⟩ := hX0.below HB.out hlt2
       clear hX0 hb02 hlt2 b1)
    | (go_at_call 201; (with_reducible refine (put_any2 _ _ _ _ _ _ HI.out HB.out.size (by first | omega | (simp only [ByteArray.size_append]; omega))).mono ?_); rintro e w3 ⟨rfl, acc', hq, hz, hI, hb⟩
       have m1_ := Aside0.mk hI
       have m2_ := Aside0.mk (HB.out.trans hb)
       have hz' := hz
       try simp only [ByteArray.size_append] at hz'
       clear HI HB c0 c1 c2 c3 c4 c5 c6 hI hb hz
       have HI := m1_
       have HB := m2_
       clear m1_ m2_
       obtain ⟨c0, c1, c2, c3, c4, c5, c6⟩ := HX.out.below HB.out HL.out)
    | go_in)
  · have hE : h.locals.foldl (fun o s => putB o (tLocal ++ s) e0) acc' = textH h := by
      unfold textH
      rw [if_neg (by rw [hr]; decide)]
      simp only [isE_eq]
      (repeat' split) <;> (subst_vars; first | rfl | (exfalso; simp_all; done))
    have hZ : acc'.size + h.locals.foldl (fun n s => n + s.size + 1) 0 ≤ 100000000000100 := by omega
    clear c0 c1 c2 c3 c4 c5 c6
    replace hE := Aside0.mk hE
    replace hZ := Aside0.mk hZ
    clear zs
    go_loopw [56] (fun i wr => ∃ (k : Nat) (acc : ByteArray), k ≤ h.locals.length ∧ i = .int .i64 k ∧ Aside0 (BI w2.heap.size w2.heap.size acc wr) ∧ Aside0 (Below w2.heap.size w2 wr) ∧ Aside0 ((h.locals.drop k).foldl (fun o s => putB o (tLocal ++ s) e0) acc = textH h) ∧ Aside0 (acc.size + (h.locals.drop k).foldl (fun n s => n + s.size + 1) 0 ≤ 100000000000100))
      (fun i _ => h.locals.length - (intOf i).toNat)
    case atStart => exact ⟨0, _, Nat.zero_le _, rfl, HI, HB, hE, hZ⟩
    case round =>
      clear hE hZ HI HB
      obtain ⟨k, acc, hk, rfl, HI, HB, HE, HZ⟩ := hrel
      by_cases hlt : k < h.locals.length
      · have hkz : decide ((k : Int) < (h.locals.length : Int)) = true := decide_eq_true (by omega)
        obtain ⟨ad, hA, hcell⟩ := C_str HC.out k hlt
        subst hA
        have hbw := H02.out.trans (HB.out.mono (Nat.le_of_lt HL.out))
        have hcx : wr.cell? (ad.add k) = some (.string h.locals[k]) := pw_cell_below hbw hcell
        have he := HE.out
        have hz := HZ.out
        rw [List.drop_eq_getElem_cons hlt, List.foldl_cons] at he hz
        rw [sz_fold] at hz
        obtain ⟨s, hs⟩ : ∃ s, h.locals[k] = s := ⟨_, rfl⟩
        rw [hs] at hcx he hz
        have hkw : wrap64 ((k : Int) + 1) = (k : Int) + 1 := by unfold wrap64; omega
        have hcat : ¬ (((⟨#[59]⟩ : ByteArray).size : Int) + s.size > 9223372036854775807) := by omega
        have hzs : acc.size + s.size ≤ 100000000000100 := by omega
        have hz3 : ∀ a2 : ByteArray, a2.size ≤ acc.size + (s.size + 1) → a2.size + (h.locals.drop (k + 1)).foldl (fun n s => n + s.size + 1) 0 ≤ 100000000000100 := by
          intro a2 ha
          omega
        replace he := Aside0.mk he
        replace hz3 := Aside0.mk hz3
        clear hz hbw hcell hs HE HZ
        have hsz9 : acc.size + ((⟨#[59]⟩ : ByteArray) ++ s).size + (⟨#[]⟩ : ByteArray).size ≤ 140737488355328 := by simp only [ByteArray.size_append]; omega
        have HQ := Aside0.mk (put_any2 w2.heap.size w2.heap.size acc ((⟨#[59]⟩ : ByteArray) ++ s) ⟨#[]⟩ wr HI.out HB.out.size hsz9)
        clear hsz9 hzs HI hkw
        go_wp2_with (first
          | (go_at_call 201; refine HQ.out.mono ?_; rintro e w3 ⟨rfl, acc2, hq, hz', hI, hb⟩
             have hI2 := Aside0.mk hI
             have hb2 := Aside0.mk (HB.out.trans hb)
             have hq2 := Aside0.mk hq
             have hz2 := Aside0.mk hz'
             clear hI hb hq hz' hcat HQ; have hkm : (k : Int) ≤ 1099511627776 := by omega)
          | go_in)
        refine ⟨⟨k + 1, acc2, hlt, by rfl, hI2, hb2, ⟨by rw [hq2.out]; exact he.out⟩, ⟨hz3.out acc2 ?_⟩⟩, ?_⟩
        · have q := hz2.out
          simp only [ByteArray.size_append] at q
          omega
        · show h.locals.length - ((k : Int) + 1).toNat < h.locals.length - ((k : Int)).toNat
          omega
      · have hkz : decide ((k : Int) < (h.locals.length : Int)) = false := decide_eq_false (by omega)
        have he := HE.out
        rw [List.drop_of_length_le (by omega), List.foldl_nil] at he
        replace he := Aside0.mk he
        go_wp2_with (first | (go_at_call 75; (with_reducible refine (Tryz.Builder_String_any_k _ _ _ _ HI.out HB.out.size).mono ?_); rintro e W1 ⟨rfl, hi, b1, _⟩) | go_in)
        go_ret
        refine ⟨?_, H02.out.trans ((HB.out.trans b1).mono (Nat.le_of_lt HL.out))⟩
        rw [← he.out]
        congr 1
theorem text_p1x1 (h : Hd) (A : Option Addr) (c : Nat) (w : World) (hC : Kd.string.C w A h.locals.length h.locals) (hln : h.locals.length ≤ 1099511627776) (hsum : h.result.size + h.left.size + h.name.size + h.right.size + h.f.size + h.g.size + h.locals.foldl (fun n s => n + s.size + 1) 0 ≤ 100000000000000)
    (hR : ∀ W, Below w.heap.size w W → Calls Tryz.prog 200 #[.agg #[.string h.result, .string h.left, .string h.name, .string h.right, .string h.f, .string h.g, .slice A h.locals.length c]] W fun e w' => e = .returned (.bool (rightH h)) ∧ Below W.heap.size W w') (hr : rightH h = true) (hf : h.f.toList.isEmpty = true) (hrt : h.right.toList.isEmpty = true) :
    Calls Tryz.prog 159 #[.agg #[.string h.result, .string h.left, .string h.name, .string h.right, .string h.f, .string h.g, .slice A h.locals.length c]] w fun e w' => e = .returned (.string (textH h)) ∧ Below w.heap.size w w' := by
  have HC := Aside0.mk hC
  have HS := Aside0.mk hsum
  clear hC hsum
  rw [hr] at hR
  go_enter Tryz.func159, Tryz.ntmps159
  have z0 : (⟨#[]⟩ : ByteArray).size = 0 := rfl
  have ze : e0.size = 0 := rfl
  have zl : tLocal.size = 1 := rfl
  have z1 : (⟨#[226, 134, 144]⟩ : ByteArray).size = 3 := rfl
  have z2 : (⟨#[32]⟩ : ByteArray).size = 1 := rfl
  have z3 : (⟨#[40]⟩ : ByteArray).size = 1 := rfl
  have z4 : (⟨#[41]⟩ : ByteArray).size = 1 := rfl
  have z5 : (⟨#[59]⟩ : ByteArray).size = 1 := rfl
  have zs := HS.out
  have zf : ∀ (x : ByteArray) (n : Nat), n = x.size → x.size = n := fun _ _ h => h.symm
  clear zf
  go_wp2_with (first
    | (go_at_call 200; (with_reducible refine (hR _ ((Below.refl _ w).alloc (Nat.le_refl _) _)).mono ?_); rintro e w2 ⟨rfl, b1⟩
       have hX0 : Bx w.heap.size h A c w2 := by
         refine Bx.below (B := (w.alloc (.cells #[.string h.result, .string h.left, .string h.name, .string h.right, .string h.f, .string h.g, .slice A h.locals.length c] 112)).heap.size) (W := w.alloc (.cells #[.string h.result, .string h.left, .string h.name, .string h.right, .string h.f, .string h.g, .slice A h.locals.length c] 112)) ?_ b1 (by simp)
         unfold Bx World.cell?
         rw [heap_alloc_new]
         exact ⟨rfl, rfl, rfl, rfl, rfl, rfl, rfl⟩
       have hb02 : Below w.heap.size w w2 := ((Below.refl _ w).alloc (Nat.le_refl _) _).trans (b1.mono (by simp))
       have hlt2 : w.heap.size < w2.heap.size := by have := b1.size; simp at this; omega
       have HI : Aside0 (BI w2.heap.size w2.heap.size e0 (w2.alloc (.cells #[.pointer none, .slice none 0 0] 84))) := ⟨Lib.IsBuilderF.of (Lib.fresh_isBuilder 84 5 w2)⟩
       have HB : Aside0 (Below w2.heap.size w2 (w2.alloc (.cells #[.pointer none, .slice none 0 0] 84))) := ⟨(Below.refl _ w2).alloc (Nat.le_refl _) _⟩
       have HX := Aside0.mk hX0
       have HL := Aside0.mk hlt2
       have H02 := Aside0.mk hb02
       obtain ⟨c0, c1, c2, c3, c4, c5, c6⟩ := hX0.below HB.out hlt2
       clear hX0 hb02 hlt2 b1)
    | (go_at_call 201; (with_reducible refine (put_any2 _ _ _ _ _ _ HI.out HB.out.size (by first | omega | (simp only [ByteArray.size_append]; omega))).mono ?_); rintro e w3 ⟨rfl, acc', hq, hz, hI, hb⟩
       have m1_ := Aside0.mk hI
       have m2_ := Aside0.mk (HB.out.trans hb)
       have hz' := hz
       try simp only [ByteArray.size_append] at hz'
       clear HI HB c0 c1 c2 c3 c4 c5 c6 hI hb hz
       have HI := m1_
       have HB := m2_
       clear m1_ m2_
       obtain ⟨c0, c1, c2, c3, c4, c5, c6⟩ := HX.out.below HB.out HL.out)
    | go_in)
  · have hE : h.locals.foldl (fun o s => putB o (tLocal ++ s) e0) acc' = textH h := by
      unfold textH
      rw [if_neg (by rw [hr]; decide)]
      simp only [isE_eq]
      (repeat' split) <;> (subst_vars; first | rfl | (exfalso; simp_all; done))
    have hZ : acc'.size + h.locals.foldl (fun n s => n + s.size + 1) 0 ≤ 100000000000100 := by omega
    clear c0 c1 c2 c3 c4 c5 c6
    replace hE := Aside0.mk hE
    replace hZ := Aside0.mk hZ
    clear zs
    go_loopw [56] (fun i wr => ∃ (k : Nat) (acc : ByteArray), k ≤ h.locals.length ∧ i = .int .i64 k ∧ Aside0 (BI w2.heap.size w2.heap.size acc wr) ∧ Aside0 (Below w2.heap.size w2 wr) ∧ Aside0 ((h.locals.drop k).foldl (fun o s => putB o (tLocal ++ s) e0) acc = textH h) ∧ Aside0 (acc.size + (h.locals.drop k).foldl (fun n s => n + s.size + 1) 0 ≤ 100000000000100))
      (fun i _ => h.locals.length - (intOf i).toNat)
    case atStart => exact ⟨0, _, Nat.zero_le _, rfl, HI, HB, hE, hZ⟩
    case round =>
      clear hE hZ HI HB
      obtain ⟨k, acc, hk, rfl, HI, HB, HE, HZ⟩ := hrel
      by_cases hlt : k < h.locals.length
      · have hkz : decide ((k : Int) < (h.locals.length : Int)) = true := decide_eq_true (by omega)
        obtain ⟨ad, hA, hcell⟩ := C_str HC.out k hlt
        subst hA
        have hbw := H02.out.trans (HB.out.mono (Nat.le_of_lt HL.out))
        have hcx : wr.cell? (ad.add k) = some (.string h.locals[k]) := pw_cell_below hbw hcell
        have he := HE.out
        have hz := HZ.out
        rw [List.drop_eq_getElem_cons hlt, List.foldl_cons] at he hz
        rw [sz_fold] at hz
        obtain ⟨s, hs⟩ : ∃ s, h.locals[k] = s := ⟨_, rfl⟩
        rw [hs] at hcx he hz
        have hkw : wrap64 ((k : Int) + 1) = (k : Int) + 1 := by unfold wrap64; omega
        have hcat : ¬ (((⟨#[59]⟩ : ByteArray).size : Int) + s.size > 9223372036854775807) := by omega
        have hzs : acc.size + s.size ≤ 100000000000100 := by omega
        have hz3 : ∀ a2 : ByteArray, a2.size ≤ acc.size + (s.size + 1) → a2.size + (h.locals.drop (k + 1)).foldl (fun n s => n + s.size + 1) 0 ≤ 100000000000100 := by
          intro a2 ha
          omega
        replace he := Aside0.mk he
        replace hz3 := Aside0.mk hz3
        clear hz hbw hcell hs HE HZ
        have hsz9 : acc.size + ((⟨#[59]⟩ : ByteArray) ++ s).size + (⟨#[]⟩ : ByteArray).size ≤ 140737488355328 := by simp only [ByteArray.size_append]; omega
        have HQ := Aside0.mk (put_any2 w2.heap.size w2.heap.size acc ((⟨#[59]⟩ : ByteArray) ++ s) ⟨#[]⟩ wr HI.out HB.out.size hsz9)
        clear hsz9 hzs HI hkw
        go_wp2_with (first
          | (go_at_call 201; refine HQ.out.mono ?_; rintro e w3 ⟨rfl, acc2, hq, hz', hI, hb⟩
             have hI2 := Aside0.mk hI
             have hb2 := Aside0.mk (HB.out.trans hb)
             have hq2 := Aside0.mk hq
             have hz2 := Aside0.mk hz'
             clear hI hb hq hz' hcat HQ; have hkm : (k : Int) ≤ 1099511627776 := by omega)
          | go_in)
        refine ⟨⟨k + 1, acc2, hlt, by rfl, hI2, hb2, ⟨by rw [hq2.out]; exact he.out⟩, ⟨hz3.out acc2 ?_⟩⟩, ?_⟩
        · have q := hz2.out
          simp only [ByteArray.size_append] at q
          omega
        · show h.locals.length - ((k : Int) + 1).toNat < h.locals.length - ((k : Int)).toNat
          omega
      · have hkz : decide ((k : Int) < (h.locals.length : Int)) = false := decide_eq_false (by omega)
        have he := HE.out
        rw [List.drop_of_length_le (by omega), List.foldl_nil] at he
        replace he := Aside0.mk he
        go_wp2_with (first | (go_at_call 75; (with_reducible refine (Tryz.Builder_String_any_k _ _ _ _ HI.out HB.out.size).mono ?_); rintro e W1 ⟨rfl, hi, b1, _⟩) | go_in)
        go_ret
        refine ⟨?_, H02.out.trans ((HB.out.trans b1).mono (Nat.le_of_lt HL.out))⟩
        rw [← he.out]
        congr 1
theorem text_p010 (h : Hd) (A : Option Addr) (c : Nat) (w : World) (hC : Kd.string.C w A h.locals.length h.locals) (hln : h.locals.length ≤ 1099511627776) (hsum : h.result.size + h.left.size + h.name.size + h.right.size + h.f.size + h.g.size + h.locals.foldl (fun n s => n + s.size + 1) 0 ≤ 100000000000000)
    (hR : ∀ W, Below w.heap.size w W → Calls Tryz.prog 200 #[.agg #[.string h.result, .string h.left, .string h.name, .string h.right, .string h.f, .string h.g, .slice A h.locals.length c]] W fun e w' => e = .returned (.bool (rightH h)) ∧ Below W.heap.size W w') (hr : rightH h = true) (hf : h.f.toList.isEmpty = false) (hg : h.g.toList.isEmpty = true) (hrt : h.right.toList.isEmpty = false) :
    Calls Tryz.prog 159 #[.agg #[.string h.result, .string h.left, .string h.name, .string h.right, .string h.f, .string h.g, .slice A h.locals.length c]] w fun e w' => e = .returned (.string (textH h)) ∧ Below w.heap.size w w' := by
  have HC := Aside0.mk hC
  have HS := Aside0.mk hsum
  clear hC hsum
  rw [hr] at hR
  go_enter Tryz.func159, Tryz.ntmps159
  have z0 : (⟨#[]⟩ : ByteArray).size = 0 := rfl
  have ze : e0.size = 0 := rfl
  have zl : tLocal.size = 1 := rfl
  have z1 : (⟨#[226, 134, 144]⟩ : ByteArray).size = 3 := rfl
  have z2 : (⟨#[32]⟩ : ByteArray).size = 1 := rfl
  have z3 : (⟨#[40]⟩ : ByteArray).size = 1 := rfl
  have z4 : (⟨#[41]⟩ : ByteArray).size = 1 := rfl
  have z5 : (⟨#[59]⟩ : ByteArray).size = 1 := rfl
  have zs := HS.out
  have zf : ∀ (x : ByteArray) (n : Nat), n = x.size → x.size = n := fun _ _ h => h.symm
  clear zf
  go_wp2_with (first
    | (go_at_call 200; (with_reducible refine (hR _ ((Below.refl _ w).alloc (Nat.le_refl _) _)).mono ?_); rintro e w2 ⟨rfl, b1⟩
       have hX0 : Bx w.heap.size h A c w2 := by
         refine Bx.below (B := (w.alloc (.cells #[.string h.result, .string h.left, .string h.name, .string h.right, .string h.f, .string h.g, .slice A h.locals.length c] 112)).heap.size) (W := w.alloc (.cells #[.string h.result, .string h.left, .string h.name, .string h.right, .string h.f, .string h.g, .slice A h.locals.length c] 112)) ?_ b1 (by simp)
         unfold Bx World.cell?
         rw [heap_alloc_new]
         exact ⟨rfl, rfl, rfl, rfl, rfl, rfl, rfl⟩
       have hb02 : Below w.heap.size w w2 := ((Below.refl _ w).alloc (Nat.le_refl _) _).trans (b1.mono (by simp))
       have hlt2 : w.heap.size < w2.heap.size := by have := b1.size; simp at this; omega
       have HI : Aside0 (BI w2.heap.size w2.heap.size e0 (w2.alloc (.cells #[.pointer none, .slice none 0 0] 84))) := ⟨Lib.IsBuilderF.of (Lib.fresh_isBuilder 84 5 w2)⟩
       have HB : Aside0 (Below w2.heap.size w2 (w2.alloc (.cells #[.pointer none, .slice none 0 0] 84))) := ⟨(Below.refl _ w2).alloc (Nat.le_refl _) _⟩
       have HX := Aside0.mk hX0
       have HL := Aside0.mk hlt2
       have H02 := Aside0.mk hb02
       obtain ⟨c0, c1, c2, c3, c4, c5, c6⟩ := hX0.below HB.out hlt2
       clear hX0 hb02 hlt2 b1)
    | (go_at_call 201; (with_reducible refine (put_any2 _ _ _ _ _ _ HI.out HB.out.size (by first | omega | (simp only [ByteArray.size_append]; omega))).mono ?_); rintro e w3 ⟨rfl, acc', hq, hz, hI, hb⟩
       have m1_ := Aside0.mk hI
       have m2_ := Aside0.mk (HB.out.trans hb)
       have hz' := hz
       try simp only [ByteArray.size_append] at hz'
       clear HI HB c0 c1 c2 c3 c4 c5 c6 hI hb hz
       have HI := m1_
       have HB := m2_
       clear m1_ m2_
       obtain ⟨c0, c1, c2, c3, c4, c5, c6⟩ := HX.out.below HB.out HL.out)
    | go_in)
  · have hE : h.locals.foldl (fun o s => putB o (tLocal ++ s) e0) acc' = textH h := by
      unfold textH
      rw [if_neg (by rw [hr]; decide)]
      simp only [isE_eq]
      (repeat' split) <;> (subst_vars; first | rfl | (exfalso; simp_all; done))
    have hZ : acc'.size + h.locals.foldl (fun n s => n + s.size + 1) 0 ≤ 100000000000100 := by omega
    clear c0 c1 c2 c3 c4 c5 c6
    replace hE := Aside0.mk hE
    replace hZ := Aside0.mk hZ
    clear zs
    go_loopw [56] (fun i wr => ∃ (k : Nat) (acc : ByteArray), k ≤ h.locals.length ∧ i = .int .i64 k ∧ Aside0 (BI w2.heap.size w2.heap.size acc wr) ∧ Aside0 (Below w2.heap.size w2 wr) ∧ Aside0 ((h.locals.drop k).foldl (fun o s => putB o (tLocal ++ s) e0) acc = textH h) ∧ Aside0 (acc.size + (h.locals.drop k).foldl (fun n s => n + s.size + 1) 0 ≤ 100000000000100))
      (fun i _ => h.locals.length - (intOf i).toNat)
    case atStart => exact ⟨0, _, Nat.zero_le _, rfl, HI, HB, hE, hZ⟩
    case round =>
      clear hE hZ HI HB
      obtain ⟨k, acc, hk, rfl, HI, HB, HE, HZ⟩ := hrel
      by_cases hlt : k < h.locals.length
      · have hkz : decide ((k : Int) < (h.locals.length : Int)) = true := decide_eq_true (by omega)
        obtain ⟨ad, hA, hcell⟩ := C_str HC.out k hlt
        subst hA
        have hbw := H02.out.trans (HB.out.mono (Nat.le_of_lt HL.out))
        have hcx : wr.cell? (ad.add k) = some (.string h.locals[k]) := pw_cell_below hbw hcell
        have he := HE.out
        have hz := HZ.out
        rw [List.drop_eq_getElem_cons hlt, List.foldl_cons] at he hz
        rw [sz_fold] at hz
        obtain ⟨s, hs⟩ : ∃ s, h.locals[k] = s := ⟨_, rfl⟩
        rw [hs] at hcx he hz
        have hkw : wrap64 ((k : Int) + 1) = (k : Int) + 1 := by unfold wrap64; omega
        have hcat : ¬ (((⟨#[59]⟩ : ByteArray).size : Int) + s.size > 9223372036854775807) := by omega
        have hzs : acc.size + s.size ≤ 100000000000100 := by omega
        have hz3 : ∀ a2 : ByteArray, a2.size ≤ acc.size + (s.size + 1) → a2.size + (h.locals.drop (k + 1)).foldl (fun n s => n + s.size + 1) 0 ≤ 100000000000100 := by
          intro a2 ha
          omega
        replace he := Aside0.mk he
        replace hz3 := Aside0.mk hz3
        clear hz hbw hcell hs HE HZ
        have hsz9 : acc.size + ((⟨#[59]⟩ : ByteArray) ++ s).size + (⟨#[]⟩ : ByteArray).size ≤ 140737488355328 := by simp only [ByteArray.size_append]; omega
        have HQ := Aside0.mk (put_any2 w2.heap.size w2.heap.size acc ((⟨#[59]⟩ : ByteArray) ++ s) ⟨#[]⟩ wr HI.out HB.out.size hsz9)
        clear hsz9 hzs HI hkw
        go_wp2_with (first
          | (go_at_call 201; refine HQ.out.mono ?_; rintro e w3 ⟨rfl, acc2, hq, hz', hI, hb⟩
             have hI2 := Aside0.mk hI
             have hb2 := Aside0.mk (HB.out.trans hb)
             have hq2 := Aside0.mk hq
             have hz2 := Aside0.mk hz'
             clear hI hb hq hz' hcat HQ; have hkm : (k : Int) ≤ 1099511627776 := by omega)
          | go_in)
        refine ⟨⟨k + 1, acc2, hlt, by rfl, hI2, hb2, ⟨by rw [hq2.out]; exact he.out⟩, ⟨hz3.out acc2 ?_⟩⟩, ?_⟩
        · have q := hz2.out
          simp only [ByteArray.size_append] at q
          omega
        · show h.locals.length - ((k : Int) + 1).toNat < h.locals.length - ((k : Int)).toNat
          omega
      · have hkz : decide ((k : Int) < (h.locals.length : Int)) = false := decide_eq_false (by omega)
        have he := HE.out
        rw [List.drop_of_length_le (by omega), List.foldl_nil] at he
        replace he := Aside0.mk he
        go_wp2_with (first | (go_at_call 75; (with_reducible refine (Tryz.Builder_String_any_k _ _ _ _ HI.out HB.out.size).mono ?_); rintro e W1 ⟨rfl, hi, b1, _⟩) | go_in)
        go_ret
        refine ⟨?_, H02.out.trans ((HB.out.trans b1).mono (Nat.le_of_lt HL.out))⟩
        rw [← he.out]
        congr 1
theorem text_p011 (h : Hd) (A : Option Addr) (c : Nat) (w : World) (hC : Kd.string.C w A h.locals.length h.locals) (hln : h.locals.length ≤ 1099511627776) (hsum : h.result.size + h.left.size + h.name.size + h.right.size + h.f.size + h.g.size + h.locals.foldl (fun n s => n + s.size + 1) 0 ≤ 100000000000000)
    (hR : ∀ W, Below w.heap.size w W → Calls Tryz.prog 200 #[.agg #[.string h.result, .string h.left, .string h.name, .string h.right, .string h.f, .string h.g, .slice A h.locals.length c]] W fun e w' => e = .returned (.bool (rightH h)) ∧ Below W.heap.size W w') (hr : rightH h = true) (hf : h.f.toList.isEmpty = false) (hg : h.g.toList.isEmpty = true) (hrt : h.right.toList.isEmpty = true) :
    Calls Tryz.prog 159 #[.agg #[.string h.result, .string h.left, .string h.name, .string h.right, .string h.f, .string h.g, .slice A h.locals.length c]] w fun e w' => e = .returned (.string (textH h)) ∧ Below w.heap.size w w' := by
  have HC := Aside0.mk hC
  have HS := Aside0.mk hsum
  clear hC hsum
  rw [hr] at hR
  go_enter Tryz.func159, Tryz.ntmps159
  have z0 : (⟨#[]⟩ : ByteArray).size = 0 := rfl
  have ze : e0.size = 0 := rfl
  have zl : tLocal.size = 1 := rfl
  have z1 : (⟨#[226, 134, 144]⟩ : ByteArray).size = 3 := rfl
  have z2 : (⟨#[32]⟩ : ByteArray).size = 1 := rfl
  have z3 : (⟨#[40]⟩ : ByteArray).size = 1 := rfl
  have z4 : (⟨#[41]⟩ : ByteArray).size = 1 := rfl
  have z5 : (⟨#[59]⟩ : ByteArray).size = 1 := rfl
  have zs := HS.out
  have zf : ∀ (x : ByteArray) (n : Nat), n = x.size → x.size = n := fun _ _ h => h.symm
  clear zf
  go_wp2_with (first
    | (go_at_call 200; (with_reducible refine (hR _ ((Below.refl _ w).alloc (Nat.le_refl _) _)).mono ?_); rintro e w2 ⟨rfl, b1⟩
       have hX0 : Bx w.heap.size h A c w2 := by
         refine Bx.below (B := (w.alloc (.cells #[.string h.result, .string h.left, .string h.name, .string h.right, .string h.f, .string h.g, .slice A h.locals.length c] 112)).heap.size) (W := w.alloc (.cells #[.string h.result, .string h.left, .string h.name, .string h.right, .string h.f, .string h.g, .slice A h.locals.length c] 112)) ?_ b1 (by simp)
         unfold Bx World.cell?
         rw [heap_alloc_new]
         exact ⟨rfl, rfl, rfl, rfl, rfl, rfl, rfl⟩
       have hb02 : Below w.heap.size w w2 := ((Below.refl _ w).alloc (Nat.le_refl _) _).trans (b1.mono (by simp))
       have hlt2 : w.heap.size < w2.heap.size := by have := b1.size; simp at this; omega
       have HI : Aside0 (BI w2.heap.size w2.heap.size e0 (w2.alloc (.cells #[.pointer none, .slice none 0 0] 84))) := ⟨Lib.IsBuilderF.of (Lib.fresh_isBuilder 84 5 w2)⟩
       have HB : Aside0 (Below w2.heap.size w2 (w2.alloc (.cells #[.pointer none, .slice none 0 0] 84))) := ⟨(Below.refl _ w2).alloc (Nat.le_refl _) _⟩
       have HX := Aside0.mk hX0
       have HL := Aside0.mk hlt2
       have H02 := Aside0.mk hb02
       obtain ⟨c0, c1, c2, c3, c4, c5, c6⟩ := hX0.below HB.out hlt2
       clear hX0 hb02 hlt2 b1)
    | (go_at_call 201; (with_reducible refine (put_any2 _ _ _ _ _ _ HI.out HB.out.size (by first | omega | (simp only [ByteArray.size_append]; omega))).mono ?_); rintro e w3 ⟨rfl, acc', hq, hz, hI, hb⟩
       have m1_ := Aside0.mk hI
       have m2_ := Aside0.mk (HB.out.trans hb)
       have hz' := hz
       try simp only [ByteArray.size_append] at hz'
       clear HI HB c0 c1 c2 c3 c4 c5 c6 hI hb hz
       have HI := m1_
       have HB := m2_
       clear m1_ m2_
       obtain ⟨c0, c1, c2, c3, c4, c5, c6⟩ := HX.out.below HB.out HL.out)
    | go_in)
  · have hE : h.locals.foldl (fun o s => putB o (tLocal ++ s) e0) acc' = textH h := by
      unfold textH
      rw [if_neg (by rw [hr]; decide)]
      simp only [isE_eq]
      (repeat' split) <;> (subst_vars; first | rfl | (exfalso; simp_all; done))
    have hZ : acc'.size + h.locals.foldl (fun n s => n + s.size + 1) 0 ≤ 100000000000100 := by omega
    clear c0 c1 c2 c3 c4 c5 c6
    replace hE := Aside0.mk hE
    replace hZ := Aside0.mk hZ
    clear zs
    go_loopw [56] (fun i wr => ∃ (k : Nat) (acc : ByteArray), k ≤ h.locals.length ∧ i = .int .i64 k ∧ Aside0 (BI w2.heap.size w2.heap.size acc wr) ∧ Aside0 (Below w2.heap.size w2 wr) ∧ Aside0 ((h.locals.drop k).foldl (fun o s => putB o (tLocal ++ s) e0) acc = textH h) ∧ Aside0 (acc.size + (h.locals.drop k).foldl (fun n s => n + s.size + 1) 0 ≤ 100000000000100))
      (fun i _ => h.locals.length - (intOf i).toNat)
    case atStart => exact ⟨0, _, Nat.zero_le _, rfl, HI, HB, hE, hZ⟩
    case round =>
      clear hE hZ HI HB
      obtain ⟨k, acc, hk, rfl, HI, HB, HE, HZ⟩ := hrel
      by_cases hlt : k < h.locals.length
      · have hkz : decide ((k : Int) < (h.locals.length : Int)) = true := decide_eq_true (by omega)
        obtain ⟨ad, hA, hcell⟩ := C_str HC.out k hlt
        subst hA
        have hbw := H02.out.trans (HB.out.mono (Nat.le_of_lt HL.out))
        have hcx : wr.cell? (ad.add k) = some (.string h.locals[k]) := pw_cell_below hbw hcell
        have he := HE.out
        have hz := HZ.out
        rw [List.drop_eq_getElem_cons hlt, List.foldl_cons] at he hz
        rw [sz_fold] at hz
        obtain ⟨s, hs⟩ : ∃ s, h.locals[k] = s := ⟨_, rfl⟩
        rw [hs] at hcx he hz
        have hkw : wrap64 ((k : Int) + 1) = (k : Int) + 1 := by unfold wrap64; omega
        have hcat : ¬ (((⟨#[59]⟩ : ByteArray).size : Int) + s.size > 9223372036854775807) := by omega
        have hzs : acc.size + s.size ≤ 100000000000100 := by omega
        have hz3 : ∀ a2 : ByteArray, a2.size ≤ acc.size + (s.size + 1) → a2.size + (h.locals.drop (k + 1)).foldl (fun n s => n + s.size + 1) 0 ≤ 100000000000100 := by
          intro a2 ha
          omega
        replace he := Aside0.mk he
        replace hz3 := Aside0.mk hz3
        clear hz hbw hcell hs HE HZ
        have hsz9 : acc.size + ((⟨#[59]⟩ : ByteArray) ++ s).size + (⟨#[]⟩ : ByteArray).size ≤ 140737488355328 := by simp only [ByteArray.size_append]; omega
        have HQ := Aside0.mk (put_any2 w2.heap.size w2.heap.size acc ((⟨#[59]⟩ : ByteArray) ++ s) ⟨#[]⟩ wr HI.out HB.out.size hsz9)
        clear hsz9 hzs HI hkw
        go_wp2_with (first
          | (go_at_call 201; refine HQ.out.mono ?_; rintro e w3 ⟨rfl, acc2, hq, hz', hI, hb⟩
             have hI2 := Aside0.mk hI
             have hb2 := Aside0.mk (HB.out.trans hb)
             have hq2 := Aside0.mk hq
             have hz2 := Aside0.mk hz'
             clear hI hb hq hz' hcat HQ; have hkm : (k : Int) ≤ 1099511627776 := by omega)
          | go_in)
        refine ⟨⟨k + 1, acc2, hlt, by rfl, hI2, hb2, ⟨by rw [hq2.out]; exact he.out⟩, ⟨hz3.out acc2 ?_⟩⟩, ?_⟩
        · have q := hz2.out
          simp only [ByteArray.size_append] at q
          omega
        · show h.locals.length - ((k : Int) + 1).toNat < h.locals.length - ((k : Int)).toNat
          omega
      · have hkz : decide ((k : Int) < (h.locals.length : Int)) = false := decide_eq_false (by omega)
        have he := HE.out
        rw [List.drop_of_length_le (by omega), List.foldl_nil] at he
        replace he := Aside0.mk he
        go_wp2_with (first | (go_at_call 75; (with_reducible refine (Tryz.Builder_String_any_k _ _ _ _ HI.out HB.out.size).mono ?_); rintro e W1 ⟨rfl, hi, b1, _⟩) | go_in)
        go_ret
        refine ⟨?_, H02.out.trans ((HB.out.trans b1).mono (Nat.le_of_lt HL.out))⟩
        rw [← he.out]
        congr 1
theorem text_p000 (h : Hd) (A : Option Addr) (c : Nat) (w : World) (hC : Kd.string.C w A h.locals.length h.locals) (hln : h.locals.length ≤ 1099511627776) (hsum : h.result.size + h.left.size + h.name.size + h.right.size + h.f.size + h.g.size + h.locals.foldl (fun n s => n + s.size + 1) 0 ≤ 100000000000000)
    (hR : ∀ W, Below w.heap.size w W → Calls Tryz.prog 200 #[.agg #[.string h.result, .string h.left, .string h.name, .string h.right, .string h.f, .string h.g, .slice A h.locals.length c]] W fun e w' => e = .returned (.bool (rightH h)) ∧ Below W.heap.size W w') (hr : rightH h = true) (hf : h.f.toList.isEmpty = false) (hg : h.g.toList.isEmpty = false) (hrt : h.right.toList.isEmpty = false) :
    Calls Tryz.prog 159 #[.agg #[.string h.result, .string h.left, .string h.name, .string h.right, .string h.f, .string h.g, .slice A h.locals.length c]] w fun e w' => e = .returned (.string (textH h)) ∧ Below w.heap.size w w' := by
  have HC := Aside0.mk hC
  have HS := Aside0.mk hsum
  clear hC hsum
  rw [hr] at hR
  go_enter Tryz.func159, Tryz.ntmps159
  have z0 : (⟨#[]⟩ : ByteArray).size = 0 := rfl
  have ze : e0.size = 0 := rfl
  have zl : tLocal.size = 1 := rfl
  have z1 : (⟨#[226, 134, 144]⟩ : ByteArray).size = 3 := rfl
  have z2 : (⟨#[32]⟩ : ByteArray).size = 1 := rfl
  have z3 : (⟨#[40]⟩ : ByteArray).size = 1 := rfl
  have z4 : (⟨#[41]⟩ : ByteArray).size = 1 := rfl
  have z5 : (⟨#[59]⟩ : ByteArray).size = 1 := rfl
  have zs := HS.out
  have zf : ∀ (x : ByteArray) (n : Nat), n = x.size → x.size = n := fun _ _ h => h.symm
  clear zf
  go_wp2_with (first
    | (go_at_call 200; (with_reducible refine (hR _ ((Below.refl _ w).alloc (Nat.le_refl _) _)).mono ?_); rintro e w2 ⟨rfl, b1⟩
       have hX0 : Bx w.heap.size h A c w2 := by
         refine Bx.below (B := (w.alloc (.cells #[.string h.result, .string h.left, .string h.name, .string h.right, .string h.f, .string h.g, .slice A h.locals.length c] 112)).heap.size) (W := w.alloc (.cells #[.string h.result, .string h.left, .string h.name, .string h.right, .string h.f, .string h.g, .slice A h.locals.length c] 112)) ?_ b1 (by simp)
         unfold Bx World.cell?
         rw [heap_alloc_new]
         exact ⟨rfl, rfl, rfl, rfl, rfl, rfl, rfl⟩
       have hb02 : Below w.heap.size w w2 := ((Below.refl _ w).alloc (Nat.le_refl _) _).trans (b1.mono (by simp))
       have hlt2 : w.heap.size < w2.heap.size := by have := b1.size; simp at this; omega
       have HI : Aside0 (BI w2.heap.size w2.heap.size e0 (w2.alloc (.cells #[.pointer none, .slice none 0 0] 84))) := ⟨Lib.IsBuilderF.of (Lib.fresh_isBuilder 84 5 w2)⟩
       have HB : Aside0 (Below w2.heap.size w2 (w2.alloc (.cells #[.pointer none, .slice none 0 0] 84))) := ⟨(Below.refl _ w2).alloc (Nat.le_refl _) _⟩
       have HX := Aside0.mk hX0
       have HL := Aside0.mk hlt2
       have H02 := Aside0.mk hb02
       obtain ⟨c0, c1, c2, c3, c4, c5, c6⟩ := hX0.below HB.out hlt2
       clear hX0 hb02 hlt2 b1)
    | (go_at_call 201; (with_reducible refine (put_any2 _ _ _ _ _ _ HI.out HB.out.size (by first | omega | (simp only [ByteArray.size_append]; omega))).mono ?_); rintro e w3 ⟨rfl, acc', hq, hz, hI, hb⟩
       have m1_ := Aside0.mk hI
       have m2_ := Aside0.mk (HB.out.trans hb)
       have hz' := hz
       try simp only [ByteArray.size_append] at hz'
       clear HI HB c0 c1 c2 c3 c4 c5 c6 hI hb hz
       have HI := m1_
       have HB := m2_
       clear m1_ m2_
       obtain ⟨c0, c1, c2, c3, c4, c5, c6⟩ := HX.out.below HB.out HL.out)
    | go_in)
  · have hE : h.locals.foldl (fun o s => putB o (tLocal ++ s) e0) acc' = textH h := by
      unfold textH
      rw [if_neg (by rw [hr]; decide)]
      simp only [isE_eq]
      (repeat' split) <;> (subst_vars; first | rfl | (exfalso; simp_all; done))
    have hZ : acc'.size + h.locals.foldl (fun n s => n + s.size + 1) 0 ≤ 100000000000100 := by omega
    clear c0 c1 c2 c3 c4 c5 c6
    replace hE := Aside0.mk hE
    replace hZ := Aside0.mk hZ
    clear zs
    go_loopw [56] (fun i wr => ∃ (k : Nat) (acc : ByteArray), k ≤ h.locals.length ∧ i = .int .i64 k ∧ Aside0 (BI w2.heap.size w2.heap.size acc wr) ∧ Aside0 (Below w2.heap.size w2 wr) ∧ Aside0 ((h.locals.drop k).foldl (fun o s => putB o (tLocal ++ s) e0) acc = textH h) ∧ Aside0 (acc.size + (h.locals.drop k).foldl (fun n s => n + s.size + 1) 0 ≤ 100000000000100))
      (fun i _ => h.locals.length - (intOf i).toNat)
    case atStart => exact ⟨0, _, Nat.zero_le _, rfl, HI, HB, hE, hZ⟩
    case round =>
      clear hE hZ HI HB
      obtain ⟨k, acc, hk, rfl, HI, HB, HE, HZ⟩ := hrel
      by_cases hlt : k < h.locals.length
      · have hkz : decide ((k : Int) < (h.locals.length : Int)) = true := decide_eq_true (by omega)
        obtain ⟨ad, hA, hcell⟩ := C_str HC.out k hlt
        subst hA
        have hbw := H02.out.trans (HB.out.mono (Nat.le_of_lt HL.out))
        have hcx : wr.cell? (ad.add k) = some (.string h.locals[k]) := pw_cell_below hbw hcell
        have he := HE.out
        have hz := HZ.out
        rw [List.drop_eq_getElem_cons hlt, List.foldl_cons] at he hz
        rw [sz_fold] at hz
        obtain ⟨s, hs⟩ : ∃ s, h.locals[k] = s := ⟨_, rfl⟩
        rw [hs] at hcx he hz
        have hkw : wrap64 ((k : Int) + 1) = (k : Int) + 1 := by unfold wrap64; omega
        have hcat : ¬ (((⟨#[59]⟩ : ByteArray).size : Int) + s.size > 9223372036854775807) := by omega
        have hzs : acc.size + s.size ≤ 100000000000100 := by omega
        have hz3 : ∀ a2 : ByteArray, a2.size ≤ acc.size + (s.size + 1) → a2.size + (h.locals.drop (k + 1)).foldl (fun n s => n + s.size + 1) 0 ≤ 100000000000100 := by
          intro a2 ha
          omega
        replace he := Aside0.mk he
        replace hz3 := Aside0.mk hz3
        clear hz hbw hcell hs HE HZ
        have hsz9 : acc.size + ((⟨#[59]⟩ : ByteArray) ++ s).size + (⟨#[]⟩ : ByteArray).size ≤ 140737488355328 := by simp only [ByteArray.size_append]; omega
        have HQ := Aside0.mk (put_any2 w2.heap.size w2.heap.size acc ((⟨#[59]⟩ : ByteArray) ++ s) ⟨#[]⟩ wr HI.out HB.out.size hsz9)
        clear hsz9 hzs HI hkw
        go_wp2_with (first
          | (go_at_call 201; refine HQ.out.mono ?_; rintro e w3 ⟨rfl, acc2, hq, hz', hI, hb⟩
             have hI2 := Aside0.mk hI
             have hb2 := Aside0.mk (HB.out.trans hb)
             have hq2 := Aside0.mk hq
             have hz2 := Aside0.mk hz'
             clear hI hb hq hz' hcat HQ; have hkm : (k : Int) ≤ 1099511627776 := by omega)
          | go_in)
        refine ⟨⟨k + 1, acc2, hlt, by rfl, hI2, hb2, ⟨by rw [hq2.out]; exact he.out⟩, ⟨hz3.out acc2 ?_⟩⟩, ?_⟩
        · have q := hz2.out
          simp only [ByteArray.size_append] at q
          omega
        · show h.locals.length - ((k : Int) + 1).toNat < h.locals.length - ((k : Int)).toNat
          omega
      · have hkz : decide ((k : Int) < (h.locals.length : Int)) = false := decide_eq_false (by omega)
        have he := HE.out
        rw [List.drop_of_length_le (by omega), List.foldl_nil] at he
        replace he := Aside0.mk he
        go_wp2_with (first | (go_at_call 75; (with_reducible refine (Tryz.Builder_String_any_k _ _ _ _ HI.out HB.out.size).mono ?_); rintro e W1 ⟨rfl, hi, b1, _⟩) | go_in)
        go_ret
        refine ⟨?_, H02.out.trans ((HB.out.trans b1).mono (Nat.le_of_lt HL.out))⟩
        rw [← he.out]
        congr 1
theorem text_p001 (h : Hd) (A : Option Addr) (c : Nat) (w : World) (hC : Kd.string.C w A h.locals.length h.locals) (hln : h.locals.length ≤ 1099511627776) (hsum : h.result.size + h.left.size + h.name.size + h.right.size + h.f.size + h.g.size + h.locals.foldl (fun n s => n + s.size + 1) 0 ≤ 100000000000000)
    (hR : ∀ W, Below w.heap.size w W → Calls Tryz.prog 200 #[.agg #[.string h.result, .string h.left, .string h.name, .string h.right, .string h.f, .string h.g, .slice A h.locals.length c]] W fun e w' => e = .returned (.bool (rightH h)) ∧ Below W.heap.size W w') (hr : rightH h = true) (hf : h.f.toList.isEmpty = false) (hg : h.g.toList.isEmpty = false) (hrt : h.right.toList.isEmpty = true) :
    Calls Tryz.prog 159 #[.agg #[.string h.result, .string h.left, .string h.name, .string h.right, .string h.f, .string h.g, .slice A h.locals.length c]] w fun e w' => e = .returned (.string (textH h)) ∧ Below w.heap.size w w' := by
  have HC := Aside0.mk hC
  have HS := Aside0.mk hsum
  clear hC hsum
  rw [hr] at hR
  go_enter Tryz.func159, Tryz.ntmps159
  have z0 : (⟨#[]⟩ : ByteArray).size = 0 := rfl
  have ze : e0.size = 0 := rfl
  have zl : tLocal.size = 1 := rfl
  have z1 : (⟨#[226, 134, 144]⟩ : ByteArray).size = 3 := rfl
  have z2 : (⟨#[32]⟩ : ByteArray).size = 1 := rfl
  have z3 : (⟨#[40]⟩ : ByteArray).size = 1 := rfl
  have z4 : (⟨#[41]⟩ : ByteArray).size = 1 := rfl
  have z5 : (⟨#[59]⟩ : ByteArray).size = 1 := rfl
  have zs := HS.out
  have zf : ∀ (x : ByteArray) (n : Nat), n = x.size → x.size = n := fun _ _ h => h.symm
  clear zf
  go_wp2_with (first
    | (go_at_call 200; (with_reducible refine (hR _ ((Below.refl _ w).alloc (Nat.le_refl _) _)).mono ?_); rintro e w2 ⟨rfl, b1⟩
       have hX0 : Bx w.heap.size h A c w2 := by
         refine Bx.below (B := (w.alloc (.cells #[.string h.result, .string h.left, .string h.name, .string h.right, .string h.f, .string h.g, .slice A h.locals.length c] 112)).heap.size) (W := w.alloc (.cells #[.string h.result, .string h.left, .string h.name, .string h.right, .string h.f, .string h.g, .slice A h.locals.length c] 112)) ?_ b1 (by simp)
         unfold Bx World.cell?
         rw [heap_alloc_new]
         exact ⟨rfl, rfl, rfl, rfl, rfl, rfl, rfl⟩
       have hb02 : Below w.heap.size w w2 := ((Below.refl _ w).alloc (Nat.le_refl _) _).trans (b1.mono (by simp))
       have hlt2 : w.heap.size < w2.heap.size := by have := b1.size; simp at this; omega
       have HI : Aside0 (BI w2.heap.size w2.heap.size e0 (w2.alloc (.cells #[.pointer none, .slice none 0 0] 84))) := ⟨Lib.IsBuilderF.of (Lib.fresh_isBuilder 84 5 w2)⟩
       have HB : Aside0 (Below w2.heap.size w2 (w2.alloc (.cells #[.pointer none, .slice none 0 0] 84))) := ⟨(Below.refl _ w2).alloc (Nat.le_refl _) _⟩
       have HX := Aside0.mk hX0
       have HL := Aside0.mk hlt2
       have H02 := Aside0.mk hb02
       obtain ⟨c0, c1, c2, c3, c4, c5, c6⟩ := hX0.below HB.out hlt2
       clear hX0 hb02 hlt2 b1)
    | (go_at_call 201; (with_reducible refine (put_any2 _ _ _ _ _ _ HI.out HB.out.size (by first | omega | (simp only [ByteArray.size_append]; omega))).mono ?_); rintro e w3 ⟨rfl, acc', hq, hz, hI, hb⟩
       have m1_ := Aside0.mk hI
       have m2_ := Aside0.mk (HB.out.trans hb)
       have hz' := hz
       try simp only [ByteArray.size_append] at hz'
       clear HI HB c0 c1 c2 c3 c4 c5 c6 hI hb hz
       have HI := m1_
       have HB := m2_
       clear m1_ m2_
       obtain ⟨c0, c1, c2, c3, c4, c5, c6⟩ := HX.out.below HB.out HL.out)
    | go_in)
  · have hE : h.locals.foldl (fun o s => putB o (tLocal ++ s) e0) acc' = textH h := by
      unfold textH
      rw [if_neg (by rw [hr]; decide)]
      simp only [isE_eq]
      (repeat' split) <;> (subst_vars; first | rfl | (exfalso; simp_all; done))
    have hZ : acc'.size + h.locals.foldl (fun n s => n + s.size + 1) 0 ≤ 100000000000100 := by omega
    clear c0 c1 c2 c3 c4 c5 c6
    replace hE := Aside0.mk hE
    replace hZ := Aside0.mk hZ
    clear zs
    go_loopw [56] (fun i wr => ∃ (k : Nat) (acc : ByteArray), k ≤ h.locals.length ∧ i = .int .i64 k ∧ Aside0 (BI w2.heap.size w2.heap.size acc wr) ∧ Aside0 (Below w2.heap.size w2 wr) ∧ Aside0 ((h.locals.drop k).foldl (fun o s => putB o (tLocal ++ s) e0) acc = textH h) ∧ Aside0 (acc.size + (h.locals.drop k).foldl (fun n s => n + s.size + 1) 0 ≤ 100000000000100))
      (fun i _ => h.locals.length - (intOf i).toNat)
    case atStart => exact ⟨0, _, Nat.zero_le _, rfl, HI, HB, hE, hZ⟩
    case round =>
      clear hE hZ HI HB
      obtain ⟨k, acc, hk, rfl, HI, HB, HE, HZ⟩ := hrel
      by_cases hlt : k < h.locals.length
      · have hkz : decide ((k : Int) < (h.locals.length : Int)) = true := decide_eq_true (by omega)
        obtain ⟨ad, hA, hcell⟩ := C_str HC.out k hlt
        subst hA
        have hbw := H02.out.trans (HB.out.mono (Nat.le_of_lt HL.out))
        have hcx : wr.cell? (ad.add k) = some (.string h.locals[k]) := pw_cell_below hbw hcell
        have he := HE.out
        have hz := HZ.out
        rw [List.drop_eq_getElem_cons hlt, List.foldl_cons] at he hz
        rw [sz_fold] at hz
        obtain ⟨s, hs⟩ : ∃ s, h.locals[k] = s := ⟨_, rfl⟩
        rw [hs] at hcx he hz
        have hkw : wrap64 ((k : Int) + 1) = (k : Int) + 1 := by unfold wrap64; omega
        have hcat : ¬ (((⟨#[59]⟩ : ByteArray).size : Int) + s.size > 9223372036854775807) := by omega
        have hzs : acc.size + s.size ≤ 100000000000100 := by omega
        have hz3 : ∀ a2 : ByteArray, a2.size ≤ acc.size + (s.size + 1) → a2.size + (h.locals.drop (k + 1)).foldl (fun n s => n + s.size + 1) 0 ≤ 100000000000100 := by
          intro a2 ha
          omega
        replace he := Aside0.mk he
        replace hz3 := Aside0.mk hz3
        clear hz hbw hcell hs HE HZ
        have hsz9 : acc.size + ((⟨#[59]⟩ : ByteArray) ++ s).size + (⟨#[]⟩ : ByteArray).size ≤ 140737488355328 := by simp only [ByteArray.size_append]; omega
        have HQ := Aside0.mk (put_any2 w2.heap.size w2.heap.size acc ((⟨#[59]⟩ : ByteArray) ++ s) ⟨#[]⟩ wr HI.out HB.out.size hsz9)
        clear hsz9 hzs HI hkw
        go_wp2_with (first
          | (go_at_call 201; refine HQ.out.mono ?_; rintro e w3 ⟨rfl, acc2, hq, hz', hI, hb⟩
             have hI2 := Aside0.mk hI
             have hb2 := Aside0.mk (HB.out.trans hb)
             have hq2 := Aside0.mk hq
             have hz2 := Aside0.mk hz'
             clear hI hb hq hz' hcat HQ; have hkm : (k : Int) ≤ 1099511627776 := by omega)
          | go_in)
        refine ⟨⟨k + 1, acc2, hlt, by rfl, hI2, hb2, ⟨by rw [hq2.out]; exact he.out⟩, ⟨hz3.out acc2 ?_⟩⟩, ?_⟩
        · have q := hz2.out
          simp only [ByteArray.size_append] at q
          omega
        · show h.locals.length - ((k : Int) + 1).toNat < h.locals.length - ((k : Int)).toNat
          omega
      · have hkz : decide ((k : Int) < (h.locals.length : Int)) = false := decide_eq_false (by omega)
        have he := HE.out
        rw [List.drop_of_length_le (by omega), List.foldl_nil] at he
        replace he := Aside0.mk he
        go_wp2_with (first | (go_at_call 75; (with_reducible refine (Tryz.Builder_String_any_k _ _ _ _ HI.out HB.out.size).mono ?_); rintro e W1 ⟨rfl, hi, b1, _⟩) | go_in)
        go_ret
        refine ⟨?_, H02.out.trans ((HB.out.trans b1).mono (Nat.le_of_lt HL.out))⟩
        rw [← he.out]
        congr 1
theorem text_any (h : Hd) (A : Option Addr) (c : Nat) (w : World) (hC : Kd.string.C w A h.locals.length h.locals) (hln : h.locals.length ≤ 1099511627776) (hsum : h.result.size + h.left.size + h.name.size + h.right.size + h.f.size + h.g.size + h.locals.foldl (fun n s => n + s.size + 1) 0 ≤ 100000000000000)
    (hR : ∀ W, Below w.heap.size w W → Calls Tryz.prog 200 #[.agg #[.string h.result, .string h.left, .string h.name, .string h.right, .string h.f, .string h.g, .slice A h.locals.length c]] W fun e w' => e = .returned (.bool (rightH h)) ∧ Below W.heap.size W w') :
    Calls Tryz.prog 159 #[.agg #[.string h.result, .string h.left, .string h.name, .string h.right, .string h.f, .string h.g, .slice A h.locals.length c]] w fun e w' => e = .returned (.string (textH h)) ∧ Below w.heap.size w w' := by
  cases hr : rightH h with
  | false =>
    have e : textH h = e0 := by unfold textH; rw [if_pos hr]
    rw [e]
    rw [hr] at hR
    go_enter Tryz.func159, Tryz.ntmps159
    go_wp2_with (first | (go_at_call 200; (with_reducible refine (hR _ ((Below.refl _ w).alloc (Nat.le_refl _) _)).mono ?_); rintro e w2 ⟨rfl, b1⟩) | go_in)
    go_ret
    exact ⟨rfl, (((Below.refl _ w).alloc (Nat.le_refl _) _).trans (b1.mono (by simp)))⟩
  | true =>
    cases hf : h.f.toList.isEmpty with
    | true =>
      cases hrt : h.right.toList.isEmpty with
      | false => exact text_p1x0 h A c w hC hln hsum hR hr hf hrt
      | true => exact text_p1x1 h A c w hC hln hsum hR hr hf hrt
    | false =>
      cases hg : h.g.toList.isEmpty with
      | true =>
        cases hrt : h.right.toList.isEmpty with
        | false => exact text_p010 h A c w hC hln hsum hR hr hf hg hrt
        | true => exact text_p011 h A c w hC hln hsum hR hr hf hg hrt
      | false =>
        cases hrt : h.right.toList.isEmpty with
        | false => exact text_p000 h A c w hC hln hsum hR hr hf hg hrt
        | true => exact text_p001 h A c w hC hln hsum hR hr hf hg hrt
end Go.Proofs.YtfdeheodjkpkkaaGreatDoor.All
