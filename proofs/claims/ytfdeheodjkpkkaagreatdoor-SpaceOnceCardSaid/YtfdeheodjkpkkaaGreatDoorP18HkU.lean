/- A walk of name.Unlike: texts that are unlike, but empty ones; a map counts them. -/
import Derived.Test.YtfdeheodjkpkkaaGreatDoorP18HkA
import Derived.Test.YtfdeheodjkpkkaaGreatDoorP18Sp3
import Derived.Maps.OwnSet
import Derived.Maps.OwnOps
import Derived.WalkKit
set_option linter.unusedVariables false
set_option linter.unusedSimpArgs false
set_option linter.unusedSectionVars false
namespace Go.Proofs.YtfdeheodjkpkkaaGreatDoor.All
open Go.RowKit Go.WideMaps Go.Maps Go.Proofs.YtfdeheodjkpkkaaGreatDoorW.PrintWords Go.Proofs.YtfdeheodjkpkkaaGreatDoorW.PrintLast Go.Proofs.YtfdeheodjkpkkaaGreatDoorW.PrintMore Go.Proofs.YtfdeheodjkpkkaaGreatDoor.G Go.Proofs.YtfdeheodjkpkkaaGreatDoor.Sp Go.Proofs.YtfdeheodjkpkkaaGreatDoor.Dm Go.Proofs.YtfdeheodjkpkkaaGreatDoor.Ba
set_option linter.unusedVariables false
set_option linter.unusedSimpArgs false
set_option maxHeartbeats 3000000
set_option maxRecDepth 1000000
theorem mapLaw : Keyed Tryz.prog 9 := string_keyed Tryz.underlying9
theorem zeroInt (w : World) : (zeroValue 3).run Tryz.prog w = .ok (.int .i64 0) w := by kernel_rfl
abbrev litS (t : ByteArray) : Lit := .string t.data.toList
theorem litS_ne {s t : ByteArray} (h : t ≠ s) : litS t ≠ litS s := fun e => h (data_inj (by injection e))
/-- The map counts the texts of a list. -/
def Counts (D : DataW Unit) (l : List ByteArray) : Prop := ∀ t, D.atKey (litS t) (.lit (.int .i64 0)) = .lit (.int .i64 (l.filter fun x => seq x t).length)
theorem seq_self (s : ByteArray) : seq s s = true := by simp [seq]
theorem seq_ne {s t : ByteArray} (h : t ≠ s) : seq s t = false := by
  unfold seq
  rw [beq_eq_false_iff_ne]
  intro e
  rw [toList_eq, toList_eq] at e
  exact h (data_inj e).symm
theorem Counts.step {D : DataW Unit} {l : List ByteArray} {s : ByteArray} (h : Counts D l) (hD : IsMap D) (hk : WideAt.IsKeyLit (litS s)) : Counts (D.put (litS s) (.lit (.int .i64 ((l.filter fun x => seq x s).length + 1 : Int)))) (s :: l) := by
  intro t
  by_cases e : t = s
  · subst e
    rw [atKey_put_same hD hk, List.filter_cons, if_pos (seq_self t), List.length_cons]
    rfl
  · rw [atKey_put_other (litS_ne e), h t, List.filter_cons, if_neg (by rw [seq_ne e]; decide)]
theorem any_filter {l : List ByteArray} {s : ByteArray} : l.any (fun x => seq x s) = decide (0 < (l.filter fun x => seq x s).length) := by
  rw [Bool.eq_iff_iff, List.any_eq_true, decide_eq_true_eq]
  constructor
  · rintro ⟨x, h1, h2⟩
    exact List.length_pos_of_mem (List.mem_filter.2 ⟨h1, h2⟩)
  · intro h
    obtain ⟨x, hx⟩ := List.exists_mem_of_length_pos h
    obtain ⟨h1, h2⟩ := List.mem_filter.1 hx
    exact ⟨x, h1, h2⟩
theorem unlike_any (A : Option Addr) (c : Nat) (l : List ByteArray) (w : World) (hC : Kd.string.C w A l.length l) (hl : l.length ≤ 1099511627776) (hsz : ∀ s ∈ l, s.size ≤ 1099511627776) :
    Calls Tryz.prog 102 #[.slice A l.length c] w fun e w' => e = .returned (.bool (unlike l)) ∧ Below w.heap.size w w' := by
  have hmm := @run_makeMap Tryz.prog
  have HC := Aside0.mk hC
  have HL := Aside0.mk hl
  clear hC
  go_enter Tryz.func102, Tryz.ntmps102
  go_wp2
  go_loopw [9] (fun i wr => ∃ (k : Nat) (D : DataW Unit), k ≤ l.length ∧ i = .int .i64 k ∧ wr.ownsMap Tryz.prog 9 (plainElem Tryz.prog 3) w.heap.size k D ∧ Below w.heap.size w wr ∧ Aside0 (Counts D (l.take k).reverse) ∧ Aside0 (unlikeGo (l.drop k) (l.take k).reverse = unlike l))
    (fun i _ => l.length - (intOf i).toNat)
  case atStart => exact ⟨0, .map [], Nat.zero_le _, rfl, World.ownsMap_made _ _ _ _, (Below.refl _ _).alloc (Nat.le_refl _) _, ⟨fun t => rfl⟩, ⟨rfl⟩⟩
  case round =>
    obtain ⟨k, D, hk, rfl, hown, hnx, HD, HU⟩ := hrel
    by_cases hlt : k < l.length
    · obtain ⟨ad, hA, hcell⟩ := C_str HC.out k hlt
      subst hA
      obtain ⟨s, hs⟩ : ∃ s, l[k] = s := ⟨_, rfl⟩
      rw [hs] at hcell
      have hmem : s ∈ l := by rw [← hs]; exact List.getElem_mem hlt
      have hss := hsz s hmem
      have hkey : keyOf Tryz.prog 9 (.string s) = some (litS s) := keyOf_string_mk Tryz.underlying9 (by unfold maxLen; omega)
      have hcx : wr.cell? (ad.add k) = some (.string s) := pw_cell_below hnx hcell
      have hkz : decide ((k : Int) < (l.length : Int)) = true := decide_eq_true (by omega)
      obtain ⟨c0, hrun, hat, _⟩ := hown.lookup_int mapLaw Tryz.underlying152 Tryz.underlying3 (zeroInt _) hkey
      have hc0 : c0 = ((l.take k).reverse.filter fun x => seq x s).length := by
        have := HD.out s
        rw [this] at hat
        injection hat with h1
        injection h1 with _ h2
        exact h2.symm
      have hcl : c0 ≤ 1099511627776 ∧ 0 ≤ c0 := by
        rw [hc0]
        have h1 := List.length_filter_le (fun x => seq x s) (l.take k).reverse
        have h2 : (l.take k).reverse.length = k := by simp; omega
        have := HL.out
        omega
      have hD := hown.tidy mapLaw
      have hst := Counts.step HD.out (Tidy.isMap hD) (mapLaw.key hkey)
      rw [← hc0] at hst
      have hw1 : wrap64 (c0 + 1) = c0 + 1 := by unfold wrap64; omega
      have hwf : (Lit.int .i64 (c0 + 1)).wf = true := by have := wrap64_wf (c0 + 1); rwa [hw1] at this
      have htk : (l.take (k + 1)).reverse = s :: (l.take k).reverse := by rw [List.take_add_one, List.getElem?_eq_getElem hlt, hs]; simp
      have hU := HU.out
      rw [List.drop_eq_getElem_cons hlt, hs, unlikeGo] at hU
      have hany := any_filter (l := (l.take k).reverse) (s := s)
      rw [show ((List.filter (fun x => seq x s) (List.take k l).reverse).length) = c0.toNat by omega] at hany
      rw [hany] at hU
      have HST := Aside0.mk hst
      have HTK := Aside0.mk htk
      replace hU := Aside0.mk hU
      clear hst htk hany hc0 hs hmem hss HD HU hat hcell
      have hse : seq s e0 = s.toList.isEmpty := by
        unfold seq
        rw [show e0.toList = [] from by rw [toList_eq]]
        cases s.toList <;> rfl
      have key : ∀ (em pos : Bool), s.toList.isEmpty = em → decide (0 < c0) = pos → True := fun _ _ _ _ => trivial
      clear key
      cases hem : s.toList.isEmpty <;> cases hpos : decide (0 < c0)
      all_goals
        have hp1 : decide (1 < c0 + 1) = decide (0 < c0) := by rw [Bool.eq_iff_iff, decide_eq_true_eq, decide_eq_true_eq]; omega
        rw [hpos] at hp1
        have hpn : decide (0 < c0.toNat) = decide (0 < c0) := by rw [Bool.eq_iff_iff, decide_eq_true_eq, decide_eq_true_eq]; omega
        have hU2 := hU.out
        rw [hse, hem, hpn, hpos] at hU2
        simp only [Bool.true_eq_false, Bool.false_eq_true, true_and, and_true, false_and, and_false, if_true, if_false, reduceIte] at hU2
        try rw [← HTK.out] at hU2
        have HST2 := HST.out
        rw [← HTK.out] at HST2
        replace HST2 := Aside0.mk HST2
        replace hU2 := Aside0.mk hU2
        clear hU HST hpn hse
        go_wp2_with (first
          | (at_mapUpdate; refine wpList_mapUpdate_own _ rfl _ _ _ 152 rfl 9 3 mapLaw Tryz.underlying152 _ w.heap.size k _ rfl hown (by unfold maxLen; omega) _ _ _ rfl rfl hkey _ [] (plainElem_int Tryz.underlying3 hwf) ?_)
          | go_in)
        intro w1 hown1 hgrow1
        obtain ⟨c1, hrun1, hat1, _⟩ := hown1.lookup_int mapLaw Tryz.underlying152 Tryz.underlying3 (zeroInt _) hkey
        rw [atKey_put_same (Tidy.isMap hD) (mapLaw.key hkey)] at hat1
        obtain rfl : c0 + 1 = c1 := by injection hat1 with h1; injection h1
        have R2 := hnx.grown hgrow1 hnx.size (fun j hj => by cases hj; exact Nat.le_refl _)
        clear hown hrun hat1
        go_wp2
        first
          | exact ⟨⟨k + 1, _, hlt, by rfl, hown1, R2, HST2, hU2⟩, by simp [intOf]; omega⟩
          | (go_ret; exact ⟨by rw [← hU2.out]; rfl, R2⟩)


    · have hkz : decide ((k : Int) < (l.length : Int)) = false := decide_eq_false (by omega)
      have hke : k = l.length := by omega
      have hU := HU.out
      rw [hke, List.drop_length, unlikeGo] at hU
      clear HD HU hown
      replace hU := Aside0.mk hU
      go_wp2
      go_ret
      exact ⟨by rw [← hU.out]; rfl, hnx⟩
end Go.Proofs.YtfdeheodjkpkkaaGreatDoor.All
