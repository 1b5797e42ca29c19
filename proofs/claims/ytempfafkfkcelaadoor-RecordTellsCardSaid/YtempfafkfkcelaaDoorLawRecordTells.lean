/- Records that are laid and read, and texts that are put and got, are what the document says, whatever mark, texts and number come in. The listed variables of Go's library hold what its text lays (the card ties them). -/
import Derived.Test.YtempfafkfkcelaaDoorCards
import Derived.Test.YtempfafkfkcelaaDoorTie
import Derived.Test.YtempfafkfkcelaaDoorGRow
import Derived.Test.YtempfafkfkcelaaDoorAll11
import Derived.Test.YtempfafkfkcelaaDoorR20Tells
import Derived.Test.YtempfafkfkcelaaDoorBa
import Derived.WalkKit
import Derived.ProofKit
import Derived.OpenShut
import Derived.ShutString
import Derived.ChangeOld
import Derived.Below
import Derived.SizedLaws
import Derived.Carry
import Derived.Lay
import Derived.Deep.DeepHandedRow
import Derived.Lib.SmallJoins
import Derived.SevenTiedAt
namespace Go.Proofs.YtempfafkfkcelaaDoor.recordTells
open Go.ChangeShapes Go.WideShapes Go.ChangeAt Go.RowKit Go.Proofs.YtempfafkfkcelaaDoor.G
open Go.ChangeMaps (open_string shut_string)
set_option linter.unusedVariables false
theorem contract (H : Type) (enc : TypeId × Value → H) (W : World) (base : Nat) (args : Array Value) (ds gs : List (DataW H)) (before : List MemPlace)
    (hval0 : ∀ (j : Nat) t v, Tryd.f3.params[j]? = some t → args[j]? = some v → Value.okWide Tryd.prog W .any base t v)
    (hW : DataW.Whole enc Tryd.prog Tryd.f3.params.toList Rows.recordTellsSpec.vars false W args.toList ds gs before)
    (hsz0 : (DataW.weightsEach Tryd.prog (Tryd.f3.params.toList ++ Rows.recordTellsSpec.plain.varTypes Tryd.prog) (ds ++ gs)).all (· ≤ reachBytes) = true) (hT : Tabs W) :
    Calls Tryd.prog 3 args W fun e W' => ∃ v, e = .returned v ∧ Rows.recordTellsSpec.post enc Tryd.prog Tryd.f3 false true false false W args v W' := by
  have hval := hval0
  have hsz := hsz0
  have hW' := hW
  obtain ⟨p, q, hA0, hV, rfl, hfz, hnd⟩ := hW
  have hA : DataW.TrodAll enc Tryd.prog W 0 (fun _ => true) true Tryd.f3.params.toList args.toList ds p := hA0
  rw [Tryd.params3] at hA hval hsz
  obtain ⟨v0, vs0, d0, ds0, p0, q0, hargs, rfl, rfl, h0, r0⟩ := trodAll_cons hA
  obtain ⟨v1, vs1, d1, ds1, p1, q1, rfl, rfl, rfl, h1, r1⟩ := trodAll_cons r0
  obtain ⟨v2, vs2, d2, ds2, p2, q2, rfl, rfl, rfl, h2, r2⟩ := trodAll_cons r1
  obtain ⟨v3, vs3, d3, ds3, p3, q3, rfl, rfl, rfl, h3, r3⟩ := trodAll_cons r2
  obtain ⟨rfl, rfl, rfl⟩ := trodAll_nil r3
  obtain rfl : args = #[v0, v1, v2, v3] := by cases args; simp_all
  obtain ⟨rfl, rfl⟩ := trodVars_none hV
  have lt0 : ∀ x ∈ p0, x.block < W.heap.size := by obtain ⟨m, hm⟩ := h0; exact DataW.trod_lt m _ _ _ hm
  obtain ⟨a0, rfl, hd0, hp0, w0⟩ := open_int Tryd.underlying5 (hval 0 5 v0 rfl rfl) h0
  have lt1 : ∀ x ∈ p1, x.block < W.heap.size := by obtain ⟨m, hm⟩ := h1; exact DataW.trod_lt m _ _ _ hm
  obtain ⟨a1, rfl, hd1, hp1, y1⟩ := open_string Tryd.underlying9 (hval 1 9 v1 rfl rfl) h1
  have w1 : a1.size ≤ 140737488351232 := by
    have z := sized_string hsz (j := 1) (t := 9) (bytes := a1.data.toList) rfl (by rw [hd1]; rfl)
    rw [Array.length_toList] at z
    exact z
  have lt2 : ∀ x ∈ p2, x.block < W.heap.size := by obtain ⟨m, hm⟩ := h2; exact DataW.trod_lt m _ _ _ hm
  obtain ⟨a2, rfl, hd2, hp2, w2⟩ := open_int Tryd.underlying3 (hval 2 3 v2 rfl rfl) h2
  have lt3 : ∀ x ∈ p3, x.block < W.heap.size := by obtain ⟨m, hm⟩ := h3; exact DataW.trod_lt m _ _ _ hm
  obtain ⟨A3, c3, a3, rfl, hR3, hc3, hs3⟩ := open_texts Tryd.underlying22 Tryd.underlying9 (by kernel_rfl) (hval 3 22 v3 rfl rfl) h3
  have w3 : a3.length ≤ 140737488351232 := by
    rcases hs3 with rfl | ⟨sp, hd⟩
    · exact Nat.zero_le _
    · have z := sized_slice hsz (j := 3) (t := 22) rfl (by rw [hd]; rfl) Tryd.underlying22
      have zb : Tryd.prog.bytesOf 9 = 16 := by kernel_rfl
      have zl : (strs (H := H) a3).length = a3.length := by simp [strs]
      have zr : reachBytes = 140737488351232 := rfl
      rw [zb, zl, zr] at z
      omega
  clear hA0 hsz0 hval0
  obtain ⟨k, hk⟩ := Pure.RecordTells a0 a1 a2 a3 w0 w1 (Ba.I_of_wf w2) w3
  refine (All.decklelaw20_RecordTells_t.calls k a0 a1 a2 A3 c3 a3 true W hT rfl hR3 hc3 hk).mono fun e W' ⟨he, hb⟩ => ?_
  subst he
  exact ⟨_, rfl, _, _, _, [], _, [], hW', trodAll_mk1 (shut_bool Tryd.underlying4 _), (trodAll_cons_mk (hb.trod laidOut (by kernel_rfl) (of_decide_eq_true (by kernel_rfl)) h0 lt0) (trodAll_cons_mk (hb.trod laidOut (by kernel_rfl) (of_decide_eq_true (by kernel_rfl)) h1 lt1) (trodAll_cons_mk (hb.trod laidOut (by kernel_rfl) (of_decide_eq_true (by kernel_rfl)) h2 lt2) (trodAll_cons_mk (hb.trod laidOut (by kernel_rfl) (of_decide_eq_true (by kernel_rfl)) h3 lt3) trodAll_mk0)))), rfl, hb.frame _, fun h => by cases h⟩
theorem lifted (os : Os) (started : os.Started) (H : Type) (enc : TypeId × Value → H) (F : Stop.Interp) :
    ReturnsInHanded {} Tryd.checked os 3 .any ((OpenSpec.ofChange Rows.recordTellsSpec).preRow enc Tryd.prog Tryd.f3 Rows.recordTellsRow.domain false Rows.recordTellsRow.laid) (((OpenSpec.ofChange Rows.recordTellsSpec).at F).post enc Tryd.prog Tryd.f3 false true false false) := by
  have hx : ∃ places, DataW.whole enc Tryd.prog ((World.laidAll Tryd.prog os laidL).forCall (fun _ _ => 0) ⟨#[], #[.int .u8 0, .string ByteArray.empty, .int .i64 0, .slice none 0 0], []⟩).memory Tryd.f3.params.toList Rows.recordTellsSpec.vars false (#[.int .u8 0, .string ByteArray.empty, .int .i64 0, .slice none 0 0] : Array Value).toList 8 = some ([.lit (.int .u8 0), .lit (.string []), .lit (.int .i64 0), .nil], [], places) := ⟨[], by kernel_rfl⟩
  obtain ⟨places, hx⟩ := hx
  have hlaid : laidMetH Tryd.prog laidL ((World.laidAll Tryd.prog os laidL).forCall (fun _ _ => 0) ⟨#[], #[.int .u8 0, .string ByteArray.empty, .int .i64 0, .slice none 0 0], []⟩).memory := by rw [MakeChecks.laidMetH_plain _ _ _ (by kernel_rfl)]; exact laidMet_laidAll _ (by kernel_rfl) (by kernel_rfl)
  refine returnsInHanded_of_row (C := Tryd.checked) (s := (OpenSpec.ofChange Rows.recordTellsSpec)) own started (by kernel_rfl) Tryd.func3
    ⟨World.laidAll Tryd.prog os laidL, fun _ _ => 0, ⟨#[], #[.int .u8 0, .string ByteArray.empty, .int .i64 0, .slice none 0 0], []⟩, World.laidAll_os _ _ _, World.shaped_of_ZipB (by kernel_rfl) (by kernel_rfl), rfl, (Input.okWide_of_okWideB (by kernel_rfl)).2, OpenSpec.preRow_of_cond 8 hx (by kernel_rfl) (fun k hk => by cases hk) (by kernel_rfl) hlaid, by simp [Assume.holds]⟩ ?_
  intro W base args ds gs before hval hW _ hcond hsz hL hsh _
  exact contract H enc W base args ds gs before hval hW hsz (tabs_of hL hsh)
theorem over : Rows.RecordTellsSaid :=
  OpenClaim.holds_of_cond 3 Tryd.f3 rfl rfl rfl rfl rfl rfl rfl ⟨rfl, rfl, rfl, rfl, rfl⟩ rfl rfl rfl rfl rfl (by kernel_rfl) Tryd.func3 (by kernel_rfl)
    (of_decide_eq_true (by kernel_rfl)) (by unfold Func.isWrapper; first | (rw [if_pos (by decide +kernel)]; kernel_rfl) | (rw [if_neg (by decide +kernel)]; exact ⟨rfl, rfl⟩))
    (fun os started H enc _ F => by rw [OpenClaim.pre_eq_preRow]; exact lifted os started H enc F)
theorem plain (f : FuncId) (fn : Func) (hf : Tryd.pinned.checked.prog.funcNamed "deckle/decklelaw20.RecordTells" = some f) (hfn : Tryd.pinned.checked.prog.funcs[f]? = some fn) :
    false = Tryd.pinned.checked.prog.looks [] ∧ ∀ (j : Nat) t, fn.params[j]? = some t → Tryd.pinned.checked.prog.wantsStandIn t = false := by
  obtain rfl : f = 3 := Option.some.inj ((show Tryd.prog.funcNamed "deckle/decklelaw20.RecordTells" = some 3 by kernel_rfl).symm.trans hf) |>.symm
  obtain rfl : fn = Tryd.f3 := (Option.some.inj (Tryd.func3.symm.trans hfn)).symm
  refine ⟨by kernel_rfl, fun j t ht => ?_⟩
  rw [Tryd.params3] at ht
  have hm : t ∈ [5, 9, 3, 22] := by simpa using Array.mem_of_getElem? ht
  have hall : (([5, 9, 3, 22] : List Nat).all fun u => !Tryd.prog.wantsStandIn u) = true := by kernel_rfl
  exact (show Tryd.prog.wantsStandIn t = false by simpa using List.all_eq_true.1 hall t hm)
theorem card : Rows.RecordTellsCardSaid :=
  Claim7.holds_tied_plain_at .later [] _ _ _ _ over (fun _ h => by cases h) (by kernel_rfl) (fun _ h => by cases h) recordTells_row_tie rfl ⟨rfl, rfl⟩ (by kernel_rfl) rfl plain (by kernel_rfl)
#print axioms card
end Go.Proofs.YtempfafkfkcelaaDoor.recordTells
namespace Go.Proofs.YtempfafkfkcelaaDoor
/-- The card, under a short name, for the claim. -/
theorem recordTells_holds : Rows.RecordTellsCardSaid := recordTells.card
end Go.Proofs.YtempfafkfkcelaaDoor
