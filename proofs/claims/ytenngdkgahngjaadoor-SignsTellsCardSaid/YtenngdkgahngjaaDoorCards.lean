/-
  DERIVED. GIVEN WITH THE SEED: THE CARDS: each row of YtenngdkgahngjaaDoorRows.lean that lists a variable, with what it lists TIED to the program's text (the seventh form; the later family's looks); each row that meets fmt, with fmt's text TOLD by the authors' own Lean function (tested against real Go, not proved from fmt's source: count such statements apart). THE CARD IS WHAT COUNTS. Prove the row's statement (the work); the ties are given (YtenngdkgahngjaaDoorTie.lean); close each card by the builder's one call (the guide's Derived/Test/ToyasCard.lean, 'card_holds'). Laid BY PROGRAM, IN A SANDBOX (cutbox-door.mjs). By AI agents, Wed Nov 11 2026. No macro, syntax, notation, axiom, sorry.
-/
import Derived.Test.YtenngdkgahngjaaDoorRows
import GoSem.ClaimSeven
namespace Go.Proofs.YtenngdkgahngjaaDoor
namespace Rows

/-- THE TIED CARD OF 'decklelaw07.SignsTells'. -/
def signsTellsCard : Claim7 := { stood := { row := signsTellsRow, standIns := [], harness := (true, "618d8311e332f8a67fd66f79027326df7b9b3ff45e0e65ef0fc7aa7acf40eac9"), looks := true }, kinds := [], alts := [], laidByText := true, laidKinds := [.data, .data, .data, .data, .sentinel, .sentinel, .pinned, .pinned], laidTests := true, laidLooks := .later }
def SignsTellsCardSaid : Prop := Claim7.holds Tryd.pinned (.plain (OpenSpec.ofChange signsTellsSpec)) signsTellsCard

/-- THE TIED CARD OF 'decklelaw07.SignsBack'. -/
def signsBackCard : Claim7 := { stood := { row := signsBackRow, standIns := [], harness := (true, "618d8311e332f8a67fd66f79027326df7b9b3ff45e0e65ef0fc7aa7acf40eac9"), looks := true }, kinds := [], alts := [], laidByText := true, laidKinds := [.data, .data, .data, .data, .sentinel, .sentinel, .pinned, .pinned], laidTests := true, laidLooks := .later }
def SignsBackCardSaid : Prop := Claim7.holds Tryd.pinned (.plain (OpenSpec.ofChange signsBackSpec)) signsBackCard

/-- THE TIED CARD OF 'decklelaw07.SignsOnce'. -/
def signsOnceCard : Claim7 := { stood := { row := signsOnceRow, standIns := [], harness := (true, "618d8311e332f8a67fd66f79027326df7b9b3ff45e0e65ef0fc7aa7acf40eac9"), looks := true }, kinds := [], alts := [], laidByText := true, laidKinds := [.data, .data, .data, .data, .sentinel, .sentinel, .pinned, .pinned], laidTests := true, laidLooks := .later }
def SignsOnceCardSaid : Prop := Claim7.holds Tryd.pinned (.plain (OpenSpec.ofChange signsOnceSpec)) signsOnceCard

/-- THE TIED CARD OF 'decklelaw07.SignsParts'. -/
def signsPartsCard : Claim7 := { stood := { row := signsPartsRow, standIns := [], harness := (true, "618d8311e332f8a67fd66f79027326df7b9b3ff45e0e65ef0fc7aa7acf40eac9"), looks := true }, kinds := [], alts := [], laidByText := true, laidKinds := [.data, .data, .data, .data, .sentinel, .sentinel, .pinned, .pinned], laidTests := true, laidLooks := .later }
def SignsPartsCardSaid : Prop := Claim7.holds Tryd.pinned (.plain (OpenSpec.ofChange signsPartsSpec)) signsPartsCard

/-- THE TIED CARD OF 'decklelaw07.SignsPlain'. -/
def signsPlainCard : Claim7 := { stood := { row := signsPlainRow, standIns := [], harness := (true, "618d8311e332f8a67fd66f79027326df7b9b3ff45e0e65ef0fc7aa7acf40eac9"), looks := true }, kinds := [], alts := [], laidByText := true, laidKinds := [.data, .data, .data, .data, .sentinel, .sentinel, .pinned, .pinned], laidTests := true, laidLooks := .later }
def SignsPlainCardSaid : Prop := Claim7.holds Tryd.pinned (.plain (OpenSpec.ofChange signsPlainSpec)) signsPlainCard

/-- THE SECOND FORM's CARD OF 'decklelaw07.SignsTells'. -/
def signsTellsUptoCard : Claim7 := { stood := { row := signsTellsUptoRow, standIns := [], harness := (true, "618d8311e332f8a67fd66f79027326df7b9b3ff45e0e65ef0fc7aa7acf40eac9"), looks := true }, kinds := [], alts := [], laidByText := true, laidKinds := [.data, .data, .data, .data, .sentinel, .sentinel, .pinned, .pinned], laidTests := true, laidLooks := .later }
def SignsTellsUptoCardSaid : Prop := Claim7.holds Tryd.pinned (.plain (OpenSpec.upto signsTellsSpec)) signsTellsUptoCard

/-- THE SECOND FORM's CARD OF 'decklelaw07.SignsBack'. -/
def signsBackUptoCard : Claim7 := { stood := { row := signsBackUptoRow, standIns := [], harness := (true, "618d8311e332f8a67fd66f79027326df7b9b3ff45e0e65ef0fc7aa7acf40eac9"), looks := true }, kinds := [], alts := [], laidByText := true, laidKinds := [.data, .data, .data, .data, .sentinel, .sentinel, .pinned, .pinned], laidTests := true, laidLooks := .later }
def SignsBackUptoCardSaid : Prop := Claim7.holds Tryd.pinned (.plain (OpenSpec.upto signsBackSpec)) signsBackUptoCard

/-- THE SECOND FORM's CARD OF 'decklelaw07.SignsOnce'. -/
def signsOnceUptoCard : Claim7 := { stood := { row := signsOnceUptoRow, standIns := [], harness := (true, "618d8311e332f8a67fd66f79027326df7b9b3ff45e0e65ef0fc7aa7acf40eac9"), looks := true }, kinds := [], alts := [], laidByText := true, laidKinds := [.data, .data, .data, .data, .sentinel, .sentinel, .pinned, .pinned], laidTests := true, laidLooks := .later }
def SignsOnceUptoCardSaid : Prop := Claim7.holds Tryd.pinned (.plain (OpenSpec.upto signsOnceSpec)) signsOnceUptoCard

/-- THE SECOND FORM's CARD OF 'decklelaw07.SignsParts'. -/
def signsPartsUptoCard : Claim7 := { stood := { row := signsPartsUptoRow, standIns := [], harness := (true, "618d8311e332f8a67fd66f79027326df7b9b3ff45e0e65ef0fc7aa7acf40eac9"), looks := true }, kinds := [], alts := [], laidByText := true, laidKinds := [.data, .data, .data, .data, .sentinel, .sentinel, .pinned, .pinned], laidTests := true, laidLooks := .later }
def SignsPartsUptoCardSaid : Prop := Claim7.holds Tryd.pinned (.plain (OpenSpec.upto signsPartsSpec)) signsPartsUptoCard

/-- THE SECOND FORM's CARD OF 'decklelaw07.SignsPlain'. -/
def signsPlainUptoCard : Claim7 := { stood := { row := signsPlainUptoRow, standIns := [], harness := (true, "618d8311e332f8a67fd66f79027326df7b9b3ff45e0e65ef0fc7aa7acf40eac9"), looks := true }, kinds := [], alts := [], laidByText := true, laidKinds := [.data, .data, .data, .data, .sentinel, .sentinel, .pinned, .pinned], laidTests := true, laidLooks := .later }
def SignsPlainUptoCardSaid : Prop := Claim7.holds Tryd.pinned (.plain (OpenSpec.upto signsPlainSpec)) signsPlainUptoCard
end Rows
end Go.Proofs.YtenngdkgahngjaaDoor
