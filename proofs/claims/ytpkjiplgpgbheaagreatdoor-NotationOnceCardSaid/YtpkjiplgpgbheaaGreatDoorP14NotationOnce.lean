/- The law NotationOnce holds of the program. The listed variables of Go's library hold what its text lays (the card ties them). -/
import Derived.Test.YtpkjiplgpgbheaaGreatDoorCards
import Derived.Test.YtpkjiplgpgbheaaGreatDoorTie
import Derived.Test.YtpkjiplgpgbheaaGreatDoorP14GRow
import Derived.Test.YtpkjiplgpgbheaaGreatDoorP1410
import Derived.WalkKit
import Derived.ProofKit
import Derived.OpenShut
import Derived.ShutString
import Derived.ChangeOld
import Derived.Below
import Derived.SizedLaws
import Derived.Carry
import Derived.Lay
import Derived.Deep.DeepHandedRow
import Derived.Lib.SmallJoins
import Derived.SevenTiedAt
import Derived.Test.YtpkjiplgpgbheaaGreatDoorP14OnceA
import Derived.Test.YtpkjiplgpgbheaaGreatDoorP14OnceB
namespace Go.Proofs.YtpkjiplgpgbheaaGreatDoor.notationOnce
open Go.ChangeShapes Go.WideShapes Go.ChangeAt Go.RowKit Go.Proofs.YtpkjiplgpgbheaaGreatDoor.G
set_option linter.unusedVariables false
theorem over : Rows.NotationOnceSaid :=
  OpenClaim.holds_of_cond 9 Tryz.f9 rfl rfl rfl rfl rfl rfl rfl ⟨rfl, rfl, rfl, rfl, rfl⟩ rfl rfl rfl rfl rfl (by kernel_rfl) Tryz.func9 joined
    (of_decide_eq_true (by kernel_rfl)) (by unfold Func.isWrapper; first | (rw [if_pos (by decide +kernel)]; kernel_rfl) | (rw [if_neg (by decide +kernel)]; exact ⟨rfl, rfl⟩))
    (fun os started H enc _ F => by rw [OpenClaim.pre_eq_preRow]; exact lifted os started H enc F)
theorem plain (f : FuncId) (fn : Func) (hf : Tryz.pinned.checked.prog.funcNamed "deckle/decklelaw14.NotationOnce" = some f) (hfn : Tryz.pinned.checked.prog.funcs[f]? = some fn) :
    true = Tryz.pinned.checked.prog.looks [] ∧ ∀ (j : Nat) t, fn.params[j]? = some t → Tryz.pinned.checked.prog.wantsStandIn t = false := by
  obtain rfl : f = 9 := Option.some.inj ((show Tryz.prog.funcNamed "deckle/decklelaw14.NotationOnce" = some 9 by kernel_rfl).symm.trans hf) |>.symm
  obtain rfl : fn = Tryz.f9 := (Option.some.inj (Tryz.func9.symm.trans hfn)).symm
  refine ⟨by kernel_rfl, fun j t ht => ?_⟩
  rw [Tryz.params9] at ht
  have hm : t ∈ [9] := by simpa using Array.mem_of_getElem? ht
  have hall : (([9] : List Nat).all fun u => !Tryz.prog.wantsStandIn u) = true := by kernel_rfl
  exact (show Tryz.prog.wantsStandIn t = false by simpa using List.all_eq_true.1 hall t hm)
theorem card : Rows.NotationOnceCardSaid :=
  Claim7.holds_tied_plain_at .later [] _ _ _ _ over (fun _ h => by cases h) (by kernel_rfl) (fun _ h => by cases h) notationOnce_row_tie rfl ⟨rfl, rfl⟩ (by kernel_rfl) rfl plain (by kernel_rfl)
#print axioms card
end Go.Proofs.YtpkjiplgpgbheaaGreatDoor.notationOnce
namespace Go.Proofs.YtpkjiplgpgbheaaGreatDoor
/-- The card, under a short name, for the claim. -/
theorem notationOnce_holds : Rows.NotationOnceCardSaid := notationOnce.card
end Go.Proofs.YtpkjiplgpgbheaaGreatDoor
