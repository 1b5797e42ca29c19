/- The library's contracts that the shelf's table does not lay. -/
import Derived.Test.YtpkjiplgpgbheaaGreatDoorP14GShelf
set_option linter.unusedVariables false
set_option linter.unusedSimpArgs false
set_option linter.unusedSectionVars false
namespace Go.Proofs.YtpkjiplgpgbheaaGreatDoor.V
open Go Go.Proofs
theorem copy_fresh (b : Nat) (w : World) (h0 : w.cell? ⟨b, 0, none⟩ = some (.pointer none)) (hsh : w.shape? b = some (117, 2)) (hfz : w.frozen? ⟨b, 0, none⟩ = false) :
    Calls Tryz.prog 167 #[.pointer (some ⟨b, 0, none⟩)] w fun e w' => e = .returned (.tuple #[]) ∧ w' = w.setCell ⟨b, 0, none⟩ (.pointer (some ⟨b, 0, none⟩)) :=
  Any.Builder_copyCheck_fresh { Tryz.lays166 with } Tryz.Builder_Extra_156.toX72 b w h0 hsh hfz
end Go.Proofs.YtpkjiplgpgbheaaGreatDoor.V
