/-
  DERIVED. GIVEN WITH THE SEED: THE CARDS: each row of YtbbonbhammfpjaaDoorRows.lean that lists a variable, with what it lists TIED to the program's text (the seventh form; the later family's looks); each row that meets fmt, with fmt's text TOLD by the authors' own Lean function (tested against real Go, not proved from fmt's source: count such statements apart). THE CARD IS WHAT COUNTS. Prove the row's statement (the work); the ties are given (YtbbonbhammfpjaaDoorTie.lean); close each card by the builder's one call (the guide's Derived/Test/ToyasCard.lean, 'card_holds'). Laid BY PROGRAM, IN A SANDBOX (cutbox-door.mjs). By AI agents, Wed Nov 11 2026. No macro, syntax, notation, axiom, sorry.
-/
import Derived.Test.YtbbonbhammfpjaaDoorRows
import GoSem.ClaimSeven
namespace Go.Proofs.YtbbonbhammfpjaaDoor
namespace Rows

/-- THE TIED CARD OF 'decklelaw12.NumberTells'. -/
def numberTellsCard : Claim7 := { stood := { row := numberTellsRow, standIns := [], harness := (true, "39aab4dd1492977557b9be403ad4f87b97e144c28afbe52958a88869ddea9890"), looks := true }, kinds := [], alts := [], laidByText := true, laidKinds := [.data, .data, .data, .data, .sentinel, .sentinel, .pinned], laidTests := true, laidLooks := .later }
def NumberTellsCardSaid : Prop := Claim7.holds Tryd.pinned (.plain (OpenSpec.ofChange numberTellsSpec)) numberTellsCard

/-- THE TIED CARD OF 'decklelaw12.NumberBack'. -/
def numberBackCard : Claim7 := { stood := { row := numberBackRow, standIns := [], harness := (true, "39aab4dd1492977557b9be403ad4f87b97e144c28afbe52958a88869ddea9890"), looks := true }, kinds := [], alts := [], laidByText := true, laidKinds := [.data, .data, .data, .data, .sentinel, .sentinel, .pinned], laidTests := true, laidLooks := .later }
def NumberBackCardSaid : Prop := Claim7.holds Tryd.pinned (.plain (OpenSpec.ofChange numberBackSpec)) numberBackCard

/-- THE TIED CARD OF 'decklelaw12.NumberParts'. -/
def numberPartsCard : Claim7 := { stood := { row := numberPartsRow, standIns := [], harness := (true, "39aab4dd1492977557b9be403ad4f87b97e144c28afbe52958a88869ddea9890"), looks := true }, kinds := [], alts := [], laidByText := true, laidKinds := [.data, .data, .data, .data, .sentinel, .sentinel, .pinned], laidTests := true, laidLooks := .later }
def NumberPartsCardSaid : Prop := Claim7.holds Tryd.pinned (.plain (OpenSpec.ofChange numberPartsSpec)) numberPartsCard

/-- THE TIED CARD OF 'decklelaw12.NumberForms'. -/
def numberFormsCard : Claim7 := { stood := { row := numberFormsRow, standIns := [], harness := (true, "39aab4dd1492977557b9be403ad4f87b97e144c28afbe52958a88869ddea9890"), looks := true }, kinds := [], alts := [], laidByText := true, laidKinds := [.data, .data, .data, .data, .sentinel, .sentinel, .pinned], laidTests := true, laidLooks := .later }
def NumberFormsCardSaid : Prop := Claim7.holds Tryd.pinned (.plain (OpenSpec.ofChange numberFormsSpec)) numberFormsCard

/-- THE TIED CARD OF 'decklelaw12.NumberJoin'. -/
def numberJoinCard : Claim7 := { stood := { row := numberJoinRow, standIns := [], harness := (true, "39aab4dd1492977557b9be403ad4f87b97e144c28afbe52958a88869ddea9890"), looks := true }, kinds := [], alts := [], laidByText := true, laidKinds := [.data, .data, .data, .data, .sentinel, .sentinel, .pinned], laidTests := true, laidLooks := .later }
def NumberJoinCardSaid : Prop := Claim7.holds Tryd.pinned (.plain (OpenSpec.ofChange numberJoinSpec)) numberJoinCard

/-- THE SECOND FORM's CARD OF 'decklelaw12.NumberTells'. -/
def numberTellsUptoCard : Claim7 := { stood := { row := numberTellsUptoRow, standIns := [], harness := (true, "39aab4dd1492977557b9be403ad4f87b97e144c28afbe52958a88869ddea9890"), looks := true }, kinds := [], alts := [], laidByText := true, laidKinds := [.data, .data, .data, .data, .sentinel, .sentinel, .pinned], laidTests := true, laidLooks := .later }
def NumberTellsUptoCardSaid : Prop := Claim7.holds Tryd.pinned (.plain (OpenSpec.upto numberTellsSpec)) numberTellsUptoCard

/-- THE SECOND FORM's CARD OF 'decklelaw12.NumberBack'. -/
def numberBackUptoCard : Claim7 := { stood := { row := numberBackUptoRow, standIns := [], harness := (true, "39aab4dd1492977557b9be403ad4f87b97e144c28afbe52958a88869ddea9890"), looks := true }, kinds := [], alts := [], laidByText := true, laidKinds := [.data, .data, .data, .data, .sentinel, .sentinel, .pinned], laidTests := true, laidLooks := .later }
def NumberBackUptoCardSaid : Prop := Claim7.holds Tryd.pinned (.plain (OpenSpec.upto numberBackSpec)) numberBackUptoCard

/-- THE SECOND FORM's CARD OF 'decklelaw12.NumberParts'. -/
def numberPartsUptoCard : Claim7 := { stood := { row := numberPartsUptoRow, standIns := [], harness := (true, "39aab4dd1492977557b9be403ad4f87b97e144c28afbe52958a88869ddea9890"), looks := true }, kinds := [], alts := [], laidByText := true, laidKinds := [.data, .data, .data, .data, .sentinel, .sentinel, .pinned], laidTests := true, laidLooks := .later }
def NumberPartsUptoCardSaid : Prop := Claim7.holds Tryd.pinned (.plain (OpenSpec.upto numberPartsSpec)) numberPartsUptoCard

/-- THE SECOND FORM's CARD OF 'decklelaw12.NumberForms'. -/
def numberFormsUptoCard : Claim7 := { stood := { row := numberFormsUptoRow, standIns := [], harness := (true, "39aab4dd1492977557b9be403ad4f87b97e144c28afbe52958a88869ddea9890"), looks := true }, kinds := [], alts := [], laidByText := true, laidKinds := [.data, .data, .data, .data, .sentinel, .sentinel, .pinned], laidTests := true, laidLooks := .later }
def NumberFormsUptoCardSaid : Prop := Claim7.holds Tryd.pinned (.plain (OpenSpec.upto numberFormsSpec)) numberFormsUptoCard

/-- THE SECOND FORM's CARD OF 'decklelaw12.NumberJoin'. -/
def numberJoinUptoCard : Claim7 := { stood := { row := numberJoinUptoRow, standIns := [], harness := (true, "39aab4dd1492977557b9be403ad4f87b97e144c28afbe52958a88869ddea9890"), looks := true }, kinds := [], alts := [], laidByText := true, laidKinds := [.data, .data, .data, .data, .sentinel, .sentinel, .pinned], laidTests := true, laidLooks := .later }
def NumberJoinUptoCardSaid : Prop := Claim7.holds Tryd.pinned (.plain (OpenSpec.upto numberJoinSpec)) numberJoinUptoCard
end Rows
end Go.Proofs.YtbbonbhammfpjaaDoor
