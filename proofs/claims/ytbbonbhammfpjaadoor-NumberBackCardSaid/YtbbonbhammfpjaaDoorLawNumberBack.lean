/- Rows of numbers that were written are read as they were, with what follows, whatever numbers come in, and whatever text that goes on no number. The listed variables of Go's library hold what its text lays (the card ties them). -/
import Derived.Test.YtbbonbhammfpjaaDoorCards
import Derived.Test.YtbbonbhammfpjaaDoorTie
import Derived.Test.YtbbonbhammfpjaaDoorGRow
import Derived.Test.YtbbonbhammfpjaaDoorAll17
import Derived.Test.YtbbonbhammfpjaaDoorN12Back
import Derived.Test.YtbbonbhammfpjaaDoorBa
import Derived.Test.YtbbonbhammfpjaaDoorOpn
import Derived.WalkKit
import Derived.ProofKit
import Derived.OpenShut
import Derived.ShutString
import Derived.ChangeOld
import Derived.Below
import Derived.SizedLaws
import Derived.Carry
import Derived.Lay
import Derived.Deep.DeepHandedRow
import Derived.Lib.SmallJoins
import Derived.SevenTiedAt
namespace Go.Proofs.YtbbonbhammfpjaaDoor.numberBack
open Go.ChangeShapes Go.WideShapes Go.ChangeAt Go.RowKit Go.Proofs.YtbbonbhammfpjaaDoor.G
open Go.ChangeMaps (open_string shut_string)
set_option linter.unusedVariables false
set_option maxRecDepth 100000 in
theorem contract (H : Type) (enc : TypeId × Value → H) (W : World) (base : Nat) (args : Array Value) (ds gs : List (DataW H)) (before : List MemPlace)
    (hval0 : ∀ (j : Nat) t v, Tryd.f4.params[j]? = some t → args[j]? = some v → Value.okWide Tryd.prog W .any base t v)
    (hW : DataW.Whole enc Tryd.prog Tryd.f4.params.toList Rows.numberBackSpec.vars false W args.toList ds gs before)
    (hsz0 : (DataW.weightsEach Tryd.prog (Tryd.f4.params.toList ++ Rows.numberBackSpec.plain.varTypes Tryd.prog) (ds ++ gs)).all (· ≤ reachBytes) = true) (hT : Tabs W) :
    Calls Tryd.prog 4 args W fun e W' => ∃ v, e = .returned v ∧ Rows.numberBackSpec.post enc Tryd.prog Tryd.f4 false true false false W args v W' := by
  have hval := hval0
  have hsz := hsz0
  have hW' := hW
  obtain ⟨p, q, hA0, hV, rfl, hfz, hnd⟩ := hW
  have hA : DataW.TrodAll enc Tryd.prog W 0 (fun _ => true) true Tryd.f4.params.toList args.toList ds p := hA0
  rw [Tryd.params4] at hA hval hsz
  obtain ⟨v0, vs0, d0, ds0, p0, q0, hargs, rfl, rfl, h0, r0⟩ := trodAll_cons hA
  obtain ⟨v1, vs1, d1, ds1, p1, q1, rfl, rfl, rfl, h1, r1⟩ := trodAll_cons r0
  obtain ⟨v2, vs2, d2, ds2, p2, q2, rfl, rfl, rfl, h2, r2⟩ := trodAll_cons r1
  obtain ⟨rfl, rfl, rfl⟩ := trodAll_nil r2
  obtain rfl : args = #[v0, v1, v2] := by cases args; simp_all
  obtain ⟨rfl, rfl⟩ := trodVars_none hV
  have lt0 : ∀ x ∈ p0, x.block < W.heap.size := by obtain ⟨m, hm⟩ := h0; exact DataW.trod_lt m _ _ _ hm
  obtain ⟨A0, c0, a0, rfl, hR0, hc0, hQ0, hs0⟩ := Opn.open_rows Tryd.underlying22 (Opn.Opn.i64 Tryd.underlying3 (by kernel_rfl)) (hval 0 22 v0 rfl rfl) h0
  have w0 : a0.length ≤ 140737488351232 := by
    rcases hs0 with rfl | ⟨es, rs, hd, hl⟩
    · exact Nat.zero_le _
    · have z := sized_slice hsz (j := 0) (t := 22) rfl (by rw [hd]; rfl) Tryd.underlying22
      have zb : 1 ≤ Tryd.prog.bytesOf 3 := by decide +kernel
      have zr : reachBytes = 140737488351232 := rfl
      rw [zr, hl] at z
      have z2 := Nat.mul_le_mul_left (a0.length + rs.length) zb
      omega
  have lt1 : ∀ x ∈ p1, x.block < W.heap.size := by obtain ⟨m, hm⟩ := h1; exact DataW.trod_lt m _ _ _ hm
  obtain ⟨A1, c1, a1, rfl, hR1, hc1, hQ1, hs1⟩ := Opn.open_rows Tryd.underlying23 (Opn.Opn.struct (f := fun x : All.S28 => (x.f0, x.f1)) Tryd.underlying28 (fun p => ⟨p.1, p.2⟩) (fun _ => rfl) (Opn.OpnF.pair rfl (Opn.Opn.i64 Tryd.underlying3 (by kernel_rfl)) (Opn.OpnF.one rfl (Opn.Opn.i64 Tryd.underlying3 (by kernel_rfl)))) (by kernel_rfl)) (hval 1 23 v1 rfl rfl) h1
  have w1 : a1.length ≤ 140737488351232 := by
    rcases hs1 with rfl | ⟨es, rs, hd, hl⟩
    · exact Nat.zero_le _
    · have z := sized_slice hsz (j := 1) (t := 23) rfl (by rw [hd]; rfl) Tryd.underlying23
      have zb : 1 ≤ Tryd.prog.bytesOf 28 := by decide +kernel
      have zr : reachBytes = 140737488351232 := rfl
      rw [zr, hl] at z
      have z2 := Nat.mul_le_mul_left (a1.length + rs.length) zb
      omega
  have lt2 : ∀ x ∈ p2, x.block < W.heap.size := by obtain ⟨m, hm⟩ := h2; exact DataW.trod_lt m _ _ _ hm
  obtain ⟨a2, rfl, hd2, hp2, y2⟩ := open_string Tryd.underlying9 (hval 2 9 v2 rfl rfl) h2
  have w2 : a2.size ≤ 140737488351232 := by
    have z := sized_string hsz (j := 2) (t := 9) (bytes := a2.data.toList) rfl (by rw [hd2]; rfl)
    rw [Array.length_toList] at z
    exact z
  clear hA0 hsz0 hval0
  obtain ⟨k, hk⟩ := Pure.NumberBack a0 a1 a2 w0 hQ0 w1 hQ1 w2
  refine (All.decklelaw12_NumberBack_t.calls k A0 c0 a0 A1 c1 a1 a2 true W hT rfl hR0 hc0 hR1 hc1 hk).mono fun e W' ⟨he, hb⟩ => ?_
  subst he
  exact ⟨_, rfl, _, _, _, [], _, [], hW', trodAll_mk1 (shut_bool Tryd.underlying4 _), (trodAll_cons_mk (hb.trod laidOut (by kernel_rfl) (of_decide_eq_true (by kernel_rfl)) h0 lt0) (trodAll_cons_mk (hb.trod laidOut (by kernel_rfl) (of_decide_eq_true (by kernel_rfl)) h1 lt1) (trodAll_cons_mk (hb.trod laidOut (by kernel_rfl) (of_decide_eq_true (by kernel_rfl)) h2 lt2) trodAll_mk0))), rfl, hb.frame _, fun h => by cases h⟩
set_option maxRecDepth 100000 in
theorem lifted (os : Os) (started : os.Started) (H : Type) (enc : TypeId × Value → H) (F : Stop.Interp) :
    ReturnsInHanded {} Tryd.checked os 4 .any ((OpenSpec.ofChange Rows.numberBackSpec).preRow enc Tryd.prog Tryd.f4 Rows.numberBackRow.domain false Rows.numberBackRow.laid) (((OpenSpec.ofChange Rows.numberBackSpec).at F).post enc Tryd.prog Tryd.f4 false true false false) := by
  have hx : ∃ places, DataW.whole enc Tryd.prog ((World.laidAll Tryd.prog os laidL).forCall (fun _ _ => 0) ⟨#[], #[.slice none 0 0, .slice none 0 0, .string ByteArray.empty], []⟩).memory Tryd.f4.params.toList Rows.numberBackSpec.vars false (#[.slice none 0 0, .slice none 0 0, .string ByteArray.empty] : Array Value).toList 8 = some ([.nil, .nil, .lit (.string [])], [], places) := ⟨[], by kernel_rfl⟩
  obtain ⟨places, hx⟩ := hx
  have hlaid : laidMetH Tryd.prog laidL ((World.laidAll Tryd.prog os laidL).forCall (fun _ _ => 0) ⟨#[], #[.slice none 0 0, .slice none 0 0, .string ByteArray.empty], []⟩).memory := by rw [MakeChecks.laidMetH_plain _ _ _ (by kernel_rfl)]; exact laidMet_laidAll _ (by kernel_rfl) (by kernel_rfl)
  refine returnsInHanded_of_row (C := Tryd.checked) (s := (OpenSpec.ofChange Rows.numberBackSpec)) own started (by kernel_rfl) Tryd.func4
    ⟨World.laidAll Tryd.prog os laidL, fun _ _ => 0, ⟨#[], #[.slice none 0 0, .slice none 0 0, .string ByteArray.empty], []⟩, World.laidAll_os _ _ _, World.shaped_of_ZipB (by kernel_rfl) (by kernel_rfl), rfl, (Input.okWide_of_okWideB (by kernel_rfl)).2, OpenSpec.preRow_of_cond 8 hx (by kernel_rfl) (fun k hk => by cases hk) (by kernel_rfl) hlaid, by simp [Assume.holds]⟩ ?_
  intro W base args ds gs before hval hW _ hcond hsz hL hsh _
  exact contract H enc W base args ds gs before hval hW hsz (tabs_of hL hsh)
theorem over : Rows.NumberBackSaid :=
  OpenClaim.holds_of_cond 4 Tryd.f4 rfl rfl rfl rfl rfl rfl rfl ⟨rfl, rfl, rfl, rfl, rfl⟩ rfl rfl rfl rfl rfl (by kernel_rfl) Tryd.func4 (by kernel_rfl)
    (of_decide_eq_true (by kernel_rfl)) (by unfold Func.isWrapper; first | (rw [if_pos (by decide +kernel)]; kernel_rfl) | (rw [if_neg (by decide +kernel)]; exact ⟨rfl, rfl⟩))
    (fun os started H enc _ F => by rw [OpenClaim.pre_eq_preRow]; exact lifted os started H enc F)
theorem plain (f : FuncId) (fn : Func) (hf : Tryd.pinned.checked.prog.funcNamed "deckle/decklelaw12.NumberBack" = some f) (hfn : Tryd.pinned.checked.prog.funcs[f]? = some fn) :
    true = Tryd.pinned.checked.prog.looks [] ∧ ∀ (j : Nat) t, fn.params[j]? = some t → Tryd.pinned.checked.prog.wantsStandIn t = false := by
  obtain rfl : f = 4 := Option.some.inj ((show Tryd.prog.funcNamed "deckle/decklelaw12.NumberBack" = some 4 by kernel_rfl).symm.trans hf) |>.symm
  obtain rfl : fn = Tryd.f4 := (Option.some.inj (Tryd.func4.symm.trans hfn)).symm
  refine ⟨by kernel_rfl, fun j t ht => ?_⟩
  rw [Tryd.params4] at ht
  have hm : t ∈ [22, 23, 9] := by simpa using Array.mem_of_getElem? ht
  have hall : (([22, 23, 9] : List Nat).all fun u => !Tryd.prog.wantsStandIn u) = true := by kernel_rfl
  exact (show Tryd.prog.wantsStandIn t = false by simpa using List.all_eq_true.1 hall t hm)
theorem card : Rows.NumberBackCardSaid :=
  Claim7.holds_tied_plain_at .later [] _ _ _ _ over (fun _ h => by cases h) (by kernel_rfl) (fun _ h => by cases h) numberBack_row_tie rfl ⟨rfl, rfl⟩ (by kernel_rfl) rfl plain (by kernel_rfl)
#print axioms card
end Go.Proofs.YtbbonbhammfpjaaDoor.numberBack
namespace Go.Proofs.YtbbonbhammfpjaaDoor
/-- The card, under a short name, for the claim. -/
theorem numberBack_holds : Rows.NumberBackCardSaid := numberBack.card
end Go.Proofs.YtbbonbhammfpjaaDoor
