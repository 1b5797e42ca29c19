/- What the laws lean on, part 8: texts of this claim, merged and cut to what is used. -/
import Derived.Lib.SplitLaws
import Derived.Test.YtpkjiplgpgbheaaGreatDoorP14EpNuP
import Derived.Test.YtpkjiplgpgbheaaGreatDoorP147
import Derived.Test.YtpkjiplgpgbheaaGreatDoorP142
set_option linter.unusedVariables false
set_option linter.unusedSimpArgs false
set_option linter.unusedSectionVars false
namespace Go.Proofs.YtpkjiplgpgbheaaGreatDoor.V
open Go Go.RowKit Go.Proofs Go.Proofs.Ev Go.Proofs.YtpkjiplgpgbheaaGreatDoor Go.Proofs.YtpkjiplgpgbheaaGreatDoor.Sp Go.Proofs.YtpkjiplgpgbheaaGreatDoor.Dm Go.Proofs.YtpkjiplgpgbheaaGreatDoor.De Go.Proofs.YtpkjiplgpgbheaaGreatDoor.Ba Go.Proofs.YtpkjiplgpgbheaaGreatDoor.Nu Go.Proofs.YtpkjiplgpgbheaaGreatDoor.NuP
set_option maxHeartbeats 4000000
set_option maxRecDepth 100000
set_option linter.unusedSimpArgs false
set_option linter.unusedVariables false
theorem countB_le (s old : ByteArray) (h : 1 ≤ old.size) : Lib.countB s old ≤ s.size := Lib.countB_le old h s.size s (Nat.le_refl _)
theorem num_den (n : Int) (h : I n) : Den Tryz.prog 90 [.int .i64 n] [] (.str (ba (numL n))) [] [] := by
  have h1 := itoa_den n h
  have hl := itoa_len h
  rw [← ba_size] at hl
  have hc := countB_le (ba (Lib.itoa n)) ⟨#[45]⟩ (Nat.le_refl 1)
  have h2 := repl_den (ba (Lib.itoa n)) ⟨#[45]⟩ ⟨#[194, 175]⟩ 1 (by omega) (Nat.le_refl 1) (by rw [show (⟨#[194, 175]⟩ : ByteArray).size = 2 from rfl]; omega)
  rw [ba_data] at h2
  have e1 : Lib.replace (Lib.itoa n) (⟨#[45]⟩ : ByteArray).data.toList (⟨#[194, 175]⟩ : ByteArray).data.toList 1 = numL n := numL_of_itoa n
  rw [e1] at h2
  clear hl hc
  (refine den_walk mix Tryz.func90 rfl (by kernel_rfl) rfl [.tmp 2] rfl (by simp) ?_; simp only [bodyOf, Tryz.f90])
  (repeat refine stp ?_)
  (refine RC (h1) ?_)
  (refine RC (h2) ?_)
  (repeat refine stp ?_)
  exact FE
theorem take_step {α : Type} {l : List α} {k : Nat} {x : α} (h : l[k]? = some x) : l.take (k + 1) = l.take k ++ [x] := by rw [List.take_add_one, h]; rfl
theorem joinB_map {α : Type} (f : α → List UInt8) (l : List α) : joinB (l.map fun x => ba (f x)) ⟨#[32]⟩ = Lib.join (l.map f) [32] := by
  unfold joinB
  rw [List.map_map]
  rw [show ((fun x : ByteArray => x.data.toList) ∘ fun x => ba (f x)) = f from funext fun x => ba_data (f x)]
def itx (x : Int) : ByteArray := ba (numL x)
theorem ints_den (l : List Int) (h : ∀ x ∈ l, I x) (hl : l.length ≤ 2000000) : Den Tryz.prog 39 [.ro (l.map eI)] [] (.str (ba (intsL l))) [] [] := by
  have hj := join_len 21 (l.map numL) (fun t ht => by obtain ⟨x, hx, rfl⟩ := List.mem_map.1 ht; exact numL_len (h x hx))
  rw [List.length_map] at hj
  have e1 : joinB (l.map itx) ⟨#[32]⟩ = intsL l := joinB_map numL l
  have hJ := join_den (l.map itx) ⟨#[32]⟩ (by rw [List.length_map]; omega) (by rw [e1]; unfold intsL; omega)
  rw [e1] at hJ
  clear e1 hj
  generalize intsL l = R at *
  (refine den_walk mix Tryz.func39 rfl (by kernel_rfl) rfl [.tmp 2] rfl (by simp) ?_; simp only [bodyOf, Tryz.f39])
  (repeat refine stp ?_)
  refine Run_loop (fun m σ => ∃ (k v : Nat), σ.t 3 = .own (.loc 3 0) v k ∧ σ.m (.loc 3 0) = ⟨v, some (.rows true 9 1 (((l.take k).map itx).map eS))⟩ ∧ σ.t 6 = .ro (l.map eI) ∧ σ.t 7 = .int .i64 l.length ∧ σ.t 8 = .int .i64 k ∧ k ≤ l.length ∧ m = l.length - k) l.length ?_ ?_
  · exact ⟨0, _, rd, rdm, rd, rd, rd, Nat.zero_le _, rfl⟩
  rintro m σ ⟨k, v, h3, hm, h6, h7, h8, hk, rfl⟩
  by_cases hlt : k < l.length
  · obtain ⟨x, hs⟩ : ∃ x, l[k]? = some x := ⟨_, List.getElem?_eq_getElem hlt⟩
    have hN := num_den x (h x (List.mem_of_getElem? hs))
    have hst := Asd.mk (take_step hs)
    have hlen : (l.take k).length = k := by rw [List.length_take]; omega
    have htk : (((l.take k).map itx).map eS).take k = ((l.take k).map itx).map eS := List.take_of_length_le (by rw [List.length_map, List.length_map, hlen]; exact Nat.le_refl _)
    have hle : k ≤ (((l.take k).map itx).map eS).length := by rw [List.length_map, List.length_map, hlen]; exact Nat.le_refl _
    generalize hA : ((l.take k).map itx).map eS = A at hm htk hle
    replace hA := Asd.mk hA
    (repeat refine stp ?_)
    (refine RC (hN) ?_)
    (repeat refine stp ?_)
    exact ⟨l.length - (k + 1), by omega, k + 1, _, rd, (by rw [hst.out, List.map_append, List.map_append, hA.out]; exact rdm), rd, rd, rd, by omega, rfl⟩
  · have hkl : k = l.length := by omega
    subst hkl
    rw [List.take_length] at hm
    have hta : ((l.map itx).map eS).take l.length = (l.map itx).map eS := List.take_of_length_le (by simp)
    clear hlt h
    (repeat refine stp ?_)
    (refine RR (hJ) ?_)
    (repeat refine stp ?_)
    exact FE
def dtx (x : Sp.Dec) : ByteArray := ba (textS x)
theorem decs_den (l : List Sp.Dec) (h : ∀ x ∈ l, wfD x) (hl : l.length ≤ 2000000) : Den Tryz.prog 44 [.ro (l.map eD)] [] (.str (ba (decsL l))) [] [] := by
  have hj := join_len 43 (l.map textS) (fun t ht => by obtain ⟨x, hx, rfl⟩ := List.mem_map.1 ht; exact textL_len (h x hx).1 (h x hx).2)
  rw [List.length_map] at hj
  have e1 : joinB (l.map dtx) ⟨#[32]⟩ = Lib.join (l.map textS) [32] := joinB_map textS l
  have hJ := join_den (l.map dtx) ⟨#[32]⟩ (by rw [List.length_map]; omega) (by rw [e1]; omega)
  rw [e1] at hJ
  have hd : (∀ x ∈ l, rightS x) → decsL l = Lib.join (l.map textS) [32] := fun h => by unfold decsL; rw [if_pos h]
  have hn : ¬ (∀ x ∈ l, rightS x) → decsL l = [] := fun h => by unfold decsL; rw [if_neg h]
  generalize decsL l = R at *
  clear e1 hj
  (refine den_walk mix Tryz.func44 rfl (by kernel_rfl) rfl [.tmp 2] rfl (by simp) ?_; simp only [bodyOf, Tryz.f44])
  (repeat refine stp ?_)
  refine Run_loop (fun m σ => ∃ (k v : Nat), σ.t 3 = .own (.loc 3 0) v k ∧ σ.m (.loc 3 0) = ⟨v, some (.rows true 9 1 (((l.take k).map dtx).map eS))⟩ ∧ σ.t 6 = .ro (l.map eD) ∧ σ.t 7 = .int .i64 l.length ∧ σ.t 8 = .int .i64 k ∧ k ≤ l.length ∧ (∀ x ∈ l.take k, rightS x) ∧ m = l.length - k) l.length ?_ ?_
  · exact ⟨0, _, rd, rdm, rd, rd, rd, Nat.zero_le _, by simp, rfl⟩
  rintro m σ ⟨k, v, h3, hm, h6, h7, h8, hk, hr, rfl⟩
  by_cases hlt : k < l.length
  · obtain ⟨x, hs⟩ : ∃ x, l[k]? = some x := ⟨_, List.getElem?_eq_getElem hlt⟩
    have hx := List.mem_of_getElem? hs
    have hR := right_den x (h x hx)
    have hN := dtext_den x (h x hx)
    unfold rightB at hR
    rw [rightD_eq] at hR
    have hst := Asd.mk (take_step hs)
    have hlen : (l.take k).length = k := by rw [List.length_take]; omega
    have htk : (((l.take k).map dtx).map eS).take k = ((l.take k).map dtx).map eS := List.take_of_length_le (by rw [List.length_map, List.length_map, hlen]; exact Nat.le_refl _)
    have hle : k ≤ (((l.take k).map dtx).map eS).length := by rw [List.length_map, List.length_map, hlen]; exact Nat.le_refl _
    generalize hA : ((l.take k).map dtx).map eS = A at hm htk hle
    replace hA := Asd.mk hA
    obtain ⟨x0, x1⟩ := x
    by_cases hxr : rightS ⟨x0, x1⟩
    · rw [decide_eq_true (show isRight x0 x1 from hxr)] at hR
      have hr2 : Asd (∀ y ∈ l.take (k + 1), rightS y) := ⟨by
        rw [hst.out]
        intro y hy
        rcases List.mem_append.1 hy with hy | hy
        · exact hr y hy
        · rw [List.mem_singleton.1 hy]; exact hxr⟩
      clear hr hd hn hJ
      (repeat refine stp ?_)
      (refine RC (hR) ?_)
      (repeat refine stp ?_)
      (refine RC (hN) ?_)
      (repeat refine stp ?_)
      exact ⟨l.length - (k + 1), by omega, k + 1, _, rd, (by rw [hst.out, List.map_append, List.map_append, hA.out]; exact rdm), rd, rd, rd, by omega, hr2.out, rfl⟩
    · rw [decide_eq_false (show ¬ isRight x0 x1 from hxr)] at hR
      have hR0 := hn (fun k => hxr (k _ hx))
      subst hR0
      clear hr hd hn hJ hN
      (repeat refine stp ?_)
      (refine RC (hR) ?_)
      (repeat refine stp ?_)
      exact FE
  · have hkl : k = l.length := by omega
    subst hkl
    rw [List.take_length] at hm hr
    have hR := hd hr
    subst hR
    have hta : ((l.map dtx).map eS).take l.length = (l.map dtx).map eS := List.take_of_length_le (by simp)
    clear hlt h hr hd hn
    (repeat refine stp ?_)
    (refine RR (hJ) ?_)
    (repeat refine stp ?_)
    exact FE
theorem ext_drop (s : ByteArray) (i : Nat) : (s.extract i s.size).data.toList = s.data.toList.drop i := by
  rw [Lib.extract_data, size_data, List.take_of_length_le (by rw [List.length_drop]; exact Nat.le_refl _)]
theorem ncut_den (s : ByteArray) (hs : s.size ≤ 1000000000000) : Den Tryz.prog 261 [.str s] [] (.tup [.str (ba (s.data.toList.take (pieces s.data.toList))), .str (ba (s.data.toList.drop (pieces s.data.toList)))]) [] [] := by
  have hz := size_data s
  (refine den_walk mix Tryz.func261 rfl (by kernel_rfl) rfl [.tmp 2, .tmp 3] rfl (by simp) ?_; simp only [bodyOf, Tryz.f261])
  (repeat refine stp ?_)
  refine Run_loop (fun m σ => ∃ (i : Nat), σ.t 0 = .str s ∧ σ.t 3 = .str ⟨#[]⟩ ∧ σ.t 4 = .int .i64 i ∧ i ≤ s.size ∧ i + pieces (s.data.toList.drop i) = pieces s.data.toList ∧ m = s.size - i) s.size ?_ ?_
  · exact ⟨0, rd, rd, rd, Nat.zero_le _, by simp, rfl⟩
  rintro m σ ⟨i, h0, h3, h4, hi, hp, rfl⟩
  by_cases hlt : i < s.size
  · have hlt' : i < s.data.toList.length := by omega
    obtain ⟨c, hc⟩ : ∃ c, s.data.toList[i] = c := ⟨_, rfl⟩
    have hdr := List.drop_eq_getElem_cons hlt'
    rw [hc] at hdr
    have hsi : s[i]? = some c := by
      rw [show s[i]? = s.data[i]? from rfl, ← Array.getElem?_toList, List.getElem?_eq_getElem hlt', hc]
    have hI := idxB_den ⟨#[48, 49, 50, 51, 52, 53, 54, 55, 56, 57, 69]⟩ (c.toNat : Int)
    have ec : ((c.toNat : Int).toNat).toUInt8 = c := by simp
    rw [ec] at hI
    have hti : (0 ≤ Lib.indexByte [48, 49, 50, 51, 52, 53, 54, 55, 56, 57, 69] c) = (digE c = true) := by rw [indexByte_mem, digE_mem]
    have hd0 : (⟨#[48, 49, 50, 51, 52, 53, 54, 55, 56, 57, 69]⟩ : ByteArray).data.toList = [48, 49, 50, 51, 52, 53, 54, 55, 56, 57, 69] := rfl
    rw [hd0] at hI
    generalize Lib.indexByte [48, 49, 50, 51, 52, 53, 54, 55, 56, 57, 69] c = t at *
    have hH := hasPf_den (s.extract i s.size) ⟨#[194, 175]⟩
    rw [ext_drop, show (⟨#[194, 175]⟩ : ByteArray).data.toList = [194, 175] from rfl, hdr] at hH
    have hm2 := hasPrefix_minus c (s.data.toList.drop (i + 1))
    cases hE : digE c with
    | true =>
      rw [hdr, pieces_dig hE] at hp
      have hp2 : i + 1 + pieces (s.data.toList.drop (i + 1)) = pieces s.data.toList := by omega
      have ht : 0 ≤ t := by rw [hti]; exact hE
      replace hp2 := Asd.mk hp2
      clear hti hH hm2 hp hd0 hz
      (repeat refine stp ?_)
      (refine RC (hI) ?_)
      (repeat refine stp ?_)
      exact ⟨s.size - (i + 1), by omega, i + 1, rd, rd, rd, hlt, hp2.out, rfl⟩
    | false =>
      have ht : t < 0 := by
        have : ¬ (0 ≤ t) := by rw [hti, hE]; decide
        omega
      by_cases hm : c = 194 ∧ (s.data.toList.drop (i + 1)).head? = some 175
      · rw [hm2.2 hm] at hH
        obtain ⟨rfl, hh⟩ := hm
        obtain ⟨l, hl⟩ : ∃ l, s.data.toList.drop (i + 1) = 175 :: l := by
          cases hq : s.data.toList.drop (i + 1) with
          | nil => rw [hq] at hh; cases hh
          | cons x l => rw [hq] at hh; exact ⟨l, by rw [show x = 175 by simpa using hh]⟩
        have hl2 : s.data.toList.drop (i + 2) = l := by rw [show i + 2 = (i + 1) + 1 by omega, ← List.drop_drop, hl]; rfl
        have hlen : i + 2 ≤ s.size := by
          have := congrArg List.length hl
          rw [List.length_drop, List.length_cons] at this
          omega
        rw [hdr, hl, pieces_minus] at hp
        have hp2 : i + 2 + pieces (s.data.toList.drop (i + 2)) = pieces s.data.toList := by rw [hl2]; omega
        replace hp2 := Asd.mk hp2
        clear hti hm2 hp hd0 hz hl hl2 hh hdr
        (repeat refine stp ?_)
        (refine RC (hI) ?_)
        (repeat refine stp ?_)
        (refine RC (hH) ?_)
        (repeat refine stp ?_)
        exact ⟨s.size - (i + 2), by omega, i + 2, rd, rd, rd, hlen, hp2.out, rfl⟩
      · have hpf : Lib.hasPrefix (c :: s.data.toList.drop (i + 1)) [194, 175] = false := by
          cases hq : Lib.hasPrefix (c :: s.data.toList.drop (i + 1)) [194, 175] with
          | false => rfl
          | true => exact absurd (hm2.1 hq) hm
        rw [hpf] at hH
        have hp0 : pieces (s.data.toList.drop i) = 0 := by rw [hdr]; exact pieces_stop hE hm
        have hpi : pieces s.data.toList = i := by omega
        have r1 : ba (s.data.toList.take (pieces s.data.toList)) = s.extract 0 i := by
          rw [hpi]
          apply data_inj
          rw [ba_data, Lib.extract_data, List.drop_zero, Nat.sub_zero]
        have r2 : ba (s.data.toList.drop (pieces s.data.toList)) = s.extract i s.size := by
          rw [hpi]
          apply data_inj
          rw [ba_data, ext_drop]
        rw [r1, r2]
        clear r1 r2 hti hm2 hp hd0 hz hdr hp0 hpi hpf
        (repeat refine stp ?_)
        (refine RC (hI) ?_)
        (repeat refine stp ?_)
        (refine RC (hH) ?_)
        (repeat refine stp ?_)
        exact FE
  · have hie : i = s.size := by omega
    subst hie
    have he : s.data.toList.drop s.size = [] := List.drop_eq_nil_of_le (by omega)
    rw [he, show pieces [] = 0 from rfl] at hp
    have r1 : ba (s.data.toList.take (pieces s.data.toList)) = s := by
      rw [← hp, Nat.add_zero, List.take_of_length_le (by omega), ba_self]
    have r2 : ba (s.data.toList.drop (pieces s.data.toList)) = ⟨#[]⟩ := by rw [← hp, Nat.add_zero, he]; rfl
    rw [r1, r2]
    clear r1 r2 hp he
    (repeat refine stp ?_)
    exact FE
theorem nread_den (s : ByteArray) (hs : s.size ≤ 4000000000) : Den Tryz.prog 262 [.str s] [] (.tup [.agg [.int .i64 (readN s.data.toList).1, .int .i64 (readN s.data.toList).2.1], .bool (readN s.data.toList).2.2]) [] [] := by
  have hP := dparse_den s (by omega)
  unfold readN
  generalize parseD s.data.toList = p at *
  cases hp : p.2.2 with
  | true =>
    rw [hp] at hP
    rw [if_pos rfl]
    (refine den_walk mix Tryz.func262 rfl (by kernel_rfl) rfl [.cell 2 70, .tmp 3] rfl (by simp) ?_; simp only [bodyOf, Tryz.f262])
    (repeat refine stp ?_)
    (refine RC (hP) ?_)
    (repeat refine stp ?_)
    exact FE
  | false =>
    rw [hp] at hP
    rw [if_neg (by decide)]
    have hc := countB_le s ⟨#[194, 175]⟩ (by decide)
    have hR := repl_den s ⟨#[194, 175]⟩ ⟨#[45]⟩ 1 (by omega) (by decide) (by rw [show (⟨#[45]⟩ : ByteArray).size = 1 from rfl]; omega)
    have er : Lib.replace s.data.toList (⟨#[194, 175]⟩ : ByteArray).data.toList (⟨#[45]⟩ : ByteArray).data.toList 1 = repM s.data.toList := rfl
    rw [er] at hR
    have hl := repM_len s.data.toList
    rw [← size_data] at hl
    have hA := atoi_den (ba (repM s.data.toList)) (by rw [ba_size]; omega)
    rw [ba_data] at hA
    have hI := atoiVal_I (repM s.data.toList)
    have hO := of_den (atoiVal (repM s.data.toList)) hI
    have hN := num_den (atoiVal (repM s.data.toList)) hI
    have hcmp : ((ba (numL (atoiVal (repM s.data.toList)))).toList == s.toList) = decide (numL (atoiVal (repM s.data.toList)) = s.data.toList) := by
      rw [ba_toList, toList_eq, Bool.eq_iff_iff, beq_iff_eq, decide_eq_true_eq]
    unfold ofB at hO
    generalize normD (atoiVal (repM s.data.toList)) 0 = q at *
    generalize decide (numL (atoiVal (repM s.data.toList)) = s.data.toList) = d at *
    generalize ba (numL (atoiVal (repM s.data.toList))) = t at *
    unfold atoiE at hA
    generalize ba (repM s.data.toList) = a at *
    generalize atoiOk (repM s.data.toList) = ok at *
    generalize atoiVal (repM s.data.toList) = v at *
    clear hc er hl hI
    cases ok with
    | true =>
      rw [if_pos rfl] at hA
      rw [Bool.true_and]
      (refine den_walk mix Tryz.func262 rfl (by kernel_rfl) rfl [.cell 2 70, .tmp 3] rfl (by simp) ?_; simp only [bodyOf, Tryz.f262])
      (repeat refine stp ?_)
      (refine RC (hP) ?_)
      (repeat refine stp ?_)
      (refine RC (hR) ?_)
      (refine RC (hA) ?_)
      (repeat refine stp ?_)
      (refine DC (hO) ?_)
      (repeat refine stp ?_)
      refine DO (.ieqN rfl Tryz.underlying127 rfl q_) ?_
      (repeat refine stp ?_)
      (refine DC (hN) ?_)
      (repeat refine stp ?_)
      exact FE
    | false =>
      rw [if_neg (by decide)] at hA
      rw [Bool.false_and]
      (refine den_walk mix Tryz.func262 rfl (by kernel_rfl) rfl [.cell 2 70, .tmp 3] rfl (by simp) ?_; simp only [bodyOf, Tryz.f262])
      (repeat refine stp ?_)
      (refine RC (hP) ?_)
      (repeat refine stp ?_)
      (refine RC (hR) ?_)
      (refine RC (hA) ?_)
      (repeat refine stp ?_)
      (refine DC (hO) ?_)
      (repeat refine stp ?_)
      refine DO (.ieqF rfl Tryz.underlying127 rfl q_) ?_
      (repeat refine stp ?_)
      exact FE
end Go.Proofs.YtpkjiplgpgbheaaGreatDoor.V
