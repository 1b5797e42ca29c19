/-
  DERIVED. GIVEN WITH THE SEED: THE CARDS: each row of YtempfafkfkcelaaDoorRows.lean that lists a variable, with what it lists TIED to the program's text (the seventh form; the later family's looks); each row that meets fmt, with fmt's text TOLD by the authors' own Lean function (tested against real Go, not proved from fmt's source: count such statements apart). THE CARD IS WHAT COUNTS. Prove the row's statement (the work); the ties are given (YtempfafkfkcelaaDoorTie.lean); close each card by the builder's one call (the guide's Derived/Test/ToyasCard.lean, 'card_holds'). Laid BY PROGRAM, IN A SANDBOX (cutbox-door.mjs). By AI agents, Wed Nov 11 2026. No macro, syntax, notation, axiom, sorry.
-/
import Derived.Test.YtempfafkfkcelaaDoorRows
import GoSem.ClaimSeven
namespace Go.Proofs.YtempfafkfkcelaaDoor
namespace Rows

/-- THE TIED CARD OF 'decklelaw20.RecordTells'. -/
def recordTellsCard : Claim7 := { stood := { row := recordTellsRow, standIns := [], harness := (true, "20cfe19a0a85f5bc61931d13d85608686dba3f6a1517dae2f58cb54c65f776f7"), looks := false }, kinds := [], alts := [], laidByText := true, laidKinds := [.data, .data, .data, .data, .pinned], laidTests := true, laidLooks := .later }
def RecordTellsCardSaid : Prop := Claim7.holds Tryd.pinned (.plain (OpenSpec.ofChange recordTellsSpec)) recordTellsCard

/-- THE TIED CARD OF 'decklelaw20.RecordBack'. -/
def recordBackCard : Claim7 := { stood := { row := recordBackRow, standIns := [], harness := (true, "20cfe19a0a85f5bc61931d13d85608686dba3f6a1517dae2f58cb54c65f776f7"), looks := false }, kinds := [], alts := [], laidByText := true, laidKinds := [.data, .data, .data, .data, .pinned], laidTests := true, laidLooks := .later }
def RecordBackCardSaid : Prop := Claim7.holds Tryd.pinned (.plain (OpenSpec.ofChange recordBackSpec)) recordBackCard

/-- THE TIED CARD OF 'decklelaw20.RecordOnce'. -/
def recordOnceCard : Claim7 := { stood := { row := recordOnceRow, standIns := [], harness := (true, "20cfe19a0a85f5bc61931d13d85608686dba3f6a1517dae2f58cb54c65f776f7"), looks := false }, kinds := [], alts := [], laidByText := true, laidKinds := [.data, .data, .data, .data, .pinned], laidTests := true, laidLooks := .later }
def RecordOnceCardSaid : Prop := Claim7.holds Tryd.pinned (.plain (OpenSpec.ofChange recordOnceSpec)) recordOnceCard

/-- THE TIED CARD OF 'decklelaw20.RecordGets'. -/
def recordGetsCard : Claim7 := { stood := { row := recordGetsRow, standIns := [], harness := (true, "20cfe19a0a85f5bc61931d13d85608686dba3f6a1517dae2f58cb54c65f776f7"), looks := false }, kinds := [], alts := [], laidByText := true, laidKinds := [.data, .data, .data, .data, .pinned], laidTests := true, laidLooks := .later }
def RecordGetsCardSaid : Prop := Claim7.holds Tryd.pinned (.plain (OpenSpec.ofChange recordGetsSpec)) recordGetsCard

/-- THE TIED CARD OF 'decklelaw20.RecordNumbers'. -/
def recordNumbersCard : Claim7 := { stood := { row := recordNumbersRow, standIns := [], harness := (true, "20cfe19a0a85f5bc61931d13d85608686dba3f6a1517dae2f58cb54c65f776f7"), looks := false }, kinds := [], alts := [], laidByText := true, laidKinds := [.data, .data, .data, .data, .pinned], laidTests := true, laidLooks := .later }
def RecordNumbersCardSaid : Prop := Claim7.holds Tryd.pinned (.plain (OpenSpec.ofChange recordNumbersSpec)) recordNumbersCard

/-- THE SECOND FORM's CARD OF 'decklelaw20.RecordTells'. -/
def recordTellsUptoCard : Claim7 := { stood := { row := recordTellsUptoRow, standIns := [], harness := (true, "20cfe19a0a85f5bc61931d13d85608686dba3f6a1517dae2f58cb54c65f776f7"), looks := false }, kinds := [], alts := [], laidByText := true, laidKinds := [.data, .data, .data, .data, .pinned], laidTests := true, laidLooks := .later }
def RecordTellsUptoCardSaid : Prop := Claim7.holds Tryd.pinned (.plain (OpenSpec.upto recordTellsSpec)) recordTellsUptoCard

/-- THE SECOND FORM's CARD OF 'decklelaw20.RecordBack'. -/
def recordBackUptoCard : Claim7 := { stood := { row := recordBackUptoRow, standIns := [], harness := (true, "20cfe19a0a85f5bc61931d13d85608686dba3f6a1517dae2f58cb54c65f776f7"), looks := false }, kinds := [], alts := [], laidByText := true, laidKinds := [.data, .data, .data, .data, .pinned], laidTests := true, laidLooks := .later }
def RecordBackUptoCardSaid : Prop := Claim7.holds Tryd.pinned (.plain (OpenSpec.upto recordBackSpec)) recordBackUptoCard

/-- THE SECOND FORM's CARD OF 'decklelaw20.RecordOnce'. -/
def recordOnceUptoCard : Claim7 := { stood := { row := recordOnceUptoRow, standIns := [], harness := (true, "20cfe19a0a85f5bc61931d13d85608686dba3f6a1517dae2f58cb54c65f776f7"), looks := false }, kinds := [], alts := [], laidByText := true, laidKinds := [.data, .data, .data, .data, .pinned], laidTests := true, laidLooks := .later }
def RecordOnceUptoCardSaid : Prop := Claim7.holds Tryd.pinned (.plain (OpenSpec.upto recordOnceSpec)) recordOnceUptoCard

/-- THE SECOND FORM's CARD OF 'decklelaw20.RecordGets'. -/
def recordGetsUptoCard : Claim7 := { stood := { row := recordGetsUptoRow, standIns := [], harness := (true, "20cfe19a0a85f5bc61931d13d85608686dba3f6a1517dae2f58cb54c65f776f7"), looks := false }, kinds := [], alts := [], laidByText := true, laidKinds := [.data, .data, .data, .data, .pinned], laidTests := true, laidLooks := .later }
def RecordGetsUptoCardSaid : Prop := Claim7.holds Tryd.pinned (.plain (OpenSpec.upto recordGetsSpec)) recordGetsUptoCard

/-- THE SECOND FORM's CARD OF 'decklelaw20.RecordNumbers'. -/
def recordNumbersUptoCard : Claim7 := { stood := { row := recordNumbersUptoRow, standIns := [], harness := (true, "20cfe19a0a85f5bc61931d13d85608686dba3f6a1517dae2f58cb54c65f776f7"), looks := false }, kinds := [], alts := [], laidByText := true, laidKinds := [.data, .data, .data, .data, .pinned], laidTests := true, laidLooks := .later }
def RecordNumbersUptoCardSaid : Prop := Claim7.holds Tryd.pinned (.plain (OpenSpec.upto recordNumbersSpec)) recordNumbersUptoCard
end Rows
end Go.Proofs.YtempfafkfkcelaaDoor
