/- The law NotationOnce: what the program forces of its row, limb by limb. -/
import Derived.Test.YtpkjiplgpgbheaaGreatDoorCards
import Derived.Test.YtpkjiplgpgbheaaGreatDoorTie
import Derived.Test.YtpkjiplgpgbheaaGreatDoorP14GRow
import Derived.Test.YtpkjiplgpgbheaaGreatDoorP1410
import Derived.WalkKit
import Derived.ProofKit
import Derived.OpenShut
import Derived.ShutString
import Derived.ChangeOld
import Derived.Below
import Derived.SizedLaws
import Derived.Carry
import Derived.Lay
import Derived.Deep.DeepHandedRow
import Derived.Lib.SmallJoins
import Derived.SevenTiedAt
namespace Go.Proofs.YtpkjiplgpgbheaaGreatDoor.notationOnce
open Go.ChangeShapes Go.WideShapes Go.ChangeAt Go.RowKit Go.Proofs.YtpkjiplgpgbheaaGreatDoor.G
set_option linter.unusedVariables false
set_option maxHeartbeats 40000000 in
theorem joined : joinedFacts Tryz.prog 9 Tryz.f9 (OpenSpec.ofChange Rows.notationOnceSpec).bare Rows.notationOnceRow = true := by
  simp only [joinedFacts, Bool.and_eq_true]
  repeat' refine And.intro ?_ ?_
  all_goals (as_aux_lemma => kernel_rfl)
end Go.Proofs.YtpkjiplgpgbheaaGreatDoor.notationOnce
