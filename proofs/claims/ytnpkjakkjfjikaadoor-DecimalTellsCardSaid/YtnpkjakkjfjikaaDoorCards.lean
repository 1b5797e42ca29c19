/-
  DERIVED. GIVEN WITH THE SEED: THE CARDS: each row of YtnpkjakkjfjikaaDoorRows.lean that lists a variable, with what it lists TIED to the program's text (the seventh form; the later family's looks); each row that meets fmt, with fmt's text TOLD by the authors' own Lean function (tested against real Go, not proved from fmt's source: count such statements apart). THE CARD IS WHAT COUNTS. Prove the row's statement (the work); the ties are given (YtnpkjakkjfjikaaDoorTie.lean); close each card by the builder's one call (the guide's Derived/Test/ToyasCard.lean, 'card_holds'). Laid BY PROGRAM, IN A SANDBOX (cutbox-door.mjs). By AI agents, Wed Nov 11 2026. No macro, syntax, notation, axiom, sorry.
-/
import Derived.Test.YtnpkjakkjfjikaaDoorRows
import GoSem.ClaimSeven
namespace Go.Proofs.YtnpkjakkjfjikaaDoor
namespace Rows

/-- THE TIED CARD OF 'decklelaw06.DecimalTells'. -/
def decimalTellsCard : Claim7 := { stood := { row := decimalTellsRow, standIns := [], harness := (true, "dbca59b5b062ec6e769a7cb2415b5193e740d1a4e5612ab5e91bbd54093696bb"), looks := true }, kinds := [], alts := [], laidByText := true, laidKinds := [.data, .data, .data, .sentinel, .sentinel], laidTests := true, laidLooks := .later }
def DecimalTellsCardSaid : Prop := Claim7.holds Tryd.pinned (.plain (OpenSpec.ofChange decimalTellsSpec)) decimalTellsCard

/-- THE TIED CARD OF 'decklelaw06.DecimalBack'. -/
def decimalBackCard : Claim7 := { stood := { row := decimalBackRow, standIns := [], harness := (true, "dbca59b5b062ec6e769a7cb2415b5193e740d1a4e5612ab5e91bbd54093696bb"), looks := true }, kinds := [], alts := [], laidByText := true, laidKinds := [.data, .data, .data, .sentinel, .sentinel], laidTests := true, laidLooks := .later }
def DecimalBackCardSaid : Prop := Claim7.holds Tryd.pinned (.plain (OpenSpec.ofChange decimalBackSpec)) decimalBackCard

/-- THE TIED CARD OF 'decklelaw06.DecimalNorm'. -/
def decimalNormCard : Claim7 := { stood := { row := decimalNormRow, standIns := [], harness := (true, "dbca59b5b062ec6e769a7cb2415b5193e740d1a4e5612ab5e91bbd54093696bb"), looks := true }, kinds := [], alts := [], laidByText := true, laidKinds := [.data, .data, .data, .sentinel, .sentinel], laidTests := true, laidLooks := .later }
def DecimalNormCardSaid : Prop := Claim7.holds Tryd.pinned (.plain (OpenSpec.ofChange decimalNormSpec)) decimalNormCard

/-- THE TIED CARD OF 'decklelaw06.DecimalOrder'. -/
def decimalOrderCard : Claim7 := { stood := { row := decimalOrderRow, standIns := [], harness := (true, "dbca59b5b062ec6e769a7cb2415b5193e740d1a4e5612ab5e91bbd54093696bb"), looks := true }, kinds := [], alts := [], laidByText := true, laidKinds := [.data, .data, .data, .sentinel, .sentinel], laidTests := true, laidLooks := .later }
def DecimalOrderCardSaid : Prop := Claim7.holds Tryd.pinned (.plain (OpenSpec.ofChange decimalOrderSpec)) decimalOrderCard

/-- THE TIED CARD OF 'decklelaw06.DecimalShift'. -/
def decimalShiftCard : Claim7 := { stood := { row := decimalShiftRow, standIns := [], harness := (true, "dbca59b5b062ec6e769a7cb2415b5193e740d1a4e5612ab5e91bbd54093696bb"), looks := true }, kinds := [], alts := [], laidByText := true, laidKinds := [.data, .data, .data, .sentinel, .sentinel], laidTests := true, laidLooks := .later }
def DecimalShiftCardSaid : Prop := Claim7.holds Tryd.pinned (.plain (OpenSpec.ofChange decimalShiftSpec)) decimalShiftCard

/-- THE TIED CARD OF 'decklelaw06.DecimalPlain'. -/
def decimalPlainCard : Claim7 := { stood := { row := decimalPlainRow, standIns := [], harness := (true, "dbca59b5b062ec6e769a7cb2415b5193e740d1a4e5612ab5e91bbd54093696bb"), looks := true }, kinds := [], alts := [], laidByText := true, laidKinds := [.data, .data, .data, .sentinel, .sentinel], laidTests := true, laidLooks := .later }
def DecimalPlainCardSaid : Prop := Claim7.holds Tryd.pinned (.plain (OpenSpec.ofChange decimalPlainSpec)) decimalPlainCard

/-- THE SECOND FORM's CARD OF 'decklelaw06.DecimalTells'. -/
def decimalTellsUptoCard : Claim7 := { stood := { row := decimalTellsUptoRow, standIns := [], harness := (true, "dbca59b5b062ec6e769a7cb2415b5193e740d1a4e5612ab5e91bbd54093696bb"), looks := true }, kinds := [], alts := [], laidByText := true, laidKinds := [.data, .data, .data, .sentinel, .sentinel], laidTests := true, laidLooks := .later }
def DecimalTellsUptoCardSaid : Prop := Claim7.holds Tryd.pinned (.plain (OpenSpec.upto decimalTellsSpec)) decimalTellsUptoCard

/-- THE SECOND FORM's CARD OF 'decklelaw06.DecimalBack'. -/
def decimalBackUptoCard : Claim7 := { stood := { row := decimalBackUptoRow, standIns := [], harness := (true, "dbca59b5b062ec6e769a7cb2415b5193e740d1a4e5612ab5e91bbd54093696bb"), looks := true }, kinds := [], alts := [], laidByText := true, laidKinds := [.data, .data, .data, .sentinel, .sentinel], laidTests := true, laidLooks := .later }
def DecimalBackUptoCardSaid : Prop := Claim7.holds Tryd.pinned (.plain (OpenSpec.upto decimalBackSpec)) decimalBackUptoCard

/-- THE SECOND FORM's CARD OF 'decklelaw06.DecimalNorm'. -/
def decimalNormUptoCard : Claim7 := { stood := { row := decimalNormUptoRow, standIns := [], harness := (true, "dbca59b5b062ec6e769a7cb2415b5193e740d1a4e5612ab5e91bbd54093696bb"), looks := true }, kinds := [], alts := [], laidByText := true, laidKinds := [.data, .data, .data, .sentinel, .sentinel], laidTests := true, laidLooks := .later }
def DecimalNormUptoCardSaid : Prop := Claim7.holds Tryd.pinned (.plain (OpenSpec.upto decimalNormSpec)) decimalNormUptoCard

/-- THE SECOND FORM's CARD OF 'decklelaw06.DecimalOrder'. -/
def decimalOrderUptoCard : Claim7 := { stood := { row := decimalOrderUptoRow, standIns := [], harness := (true, "dbca59b5b062ec6e769a7cb2415b5193e740d1a4e5612ab5e91bbd54093696bb"), looks := true }, kinds := [], alts := [], laidByText := true, laidKinds := [.data, .data, .data, .sentinel, .sentinel], laidTests := true, laidLooks := .later }
def DecimalOrderUptoCardSaid : Prop := Claim7.holds Tryd.pinned (.plain (OpenSpec.upto decimalOrderSpec)) decimalOrderUptoCard

/-- THE SECOND FORM's CARD OF 'decklelaw06.DecimalShift'. -/
def decimalShiftUptoCard : Claim7 := { stood := { row := decimalShiftUptoRow, standIns := [], harness := (true, "dbca59b5b062ec6e769a7cb2415b5193e740d1a4e5612ab5e91bbd54093696bb"), looks := true }, kinds := [], alts := [], laidByText := true, laidKinds := [.data, .data, .data, .sentinel, .sentinel], laidTests := true, laidLooks := .later }
def DecimalShiftUptoCardSaid : Prop := Claim7.holds Tryd.pinned (.plain (OpenSpec.upto decimalShiftSpec)) decimalShiftUptoCard

/-- THE SECOND FORM's CARD OF 'decklelaw06.DecimalPlain'. -/
def decimalPlainUptoCard : Claim7 := { stood := { row := decimalPlainUptoRow, standIns := [], harness := (true, "dbca59b5b062ec6e769a7cb2415b5193e740d1a4e5612ab5e91bbd54093696bb"), looks := true }, kinds := [], alts := [], laidByText := true, laidKinds := [.data, .data, .data, .sentinel, .sentinel], laidTests := true, laidLooks := .later }
def DecimalPlainUptoCardSaid : Prop := Claim7.holds Tryd.pinned (.plain (OpenSpec.upto decimalPlainSpec)) decimalPlainUptoCard
end Rows
end Go.Proofs.YtnpkjakkjfjikaaDoor
