/-
  DERIVED. GIVEN WITH THE SEED: THE CARDS: each row of YtfdeheodjkpkkaaGreatDoorRows.lean that lists a variable, with what it lists TIED to the program's text (the seventh form; the later family's looks); each row that meets fmt, with fmt's text TOLD by the authors' own Lean function (tested against real Go, not proved from fmt's source: count such statements apart). THE CARD IS WHAT COUNTS. Prove the row's statement (the work); the ties are given (YtfdeheodjkpkkaaGreatDoorTie.lean); close each card by the builder's one call (the guide's Derived/Test/ToyasCard.lean, 'card_holds'). Laid BY PROGRAM, IN A SANDBOX (cutbox-door.mjs). By AI agents, Wed Nov 11 2026. No macro, syntax, notation, axiom, sorry.
-/
import Derived.Test.YtfdeheodjkpkkaaGreatDoorRows
import GoSem.ClaimSeven
namespace Go.Proofs.YtfdeheodjkpkkaaGreatDoor
namespace Rows

/-- THE TIED CARD OF 'decklelaw18.SpaceTells'. -/
def spaceTellsCard : Claim7 := { stood := { row := spaceTellsRow, standIns := [], harness := (true, "07be8bfeef4da4f8854fe50299c1264af0e829d0c927cdf30b0949323d18c5e1"), looks := true }, kinds := [], alts := [], laidByText := true, laidKinds := [.data, .data, .data, .data, .pinned], laidTests := true, laidLooks := .later }
def SpaceTellsCardSaid : Prop := Claim7.holds Tryz.pinned (.plain (OpenSpec.ofChange spaceTellsSpec)) spaceTellsCard

/-- THE TIED CARD OF 'decklelaw18.SpaceOnce'. -/
def spaceOnceCard : Claim7 := { stood := { row := spaceOnceRow, standIns := [], harness := (true, "07be8bfeef4da4f8854fe50299c1264af0e829d0c927cdf30b0949323d18c5e1"), looks := true }, kinds := [], alts := [], laidByText := true, laidKinds := [.data, .data, .data, .data, .pinned], laidTests := true, laidLooks := .later }
def SpaceOnceCardSaid : Prop := Claim7.holds Tryz.pinned (.plain (OpenSpec.ofChange spaceOnceSpec)) spaceOnceCard

/-- THE TIED CARD OF 'decklelaw18.SpaceParts'. -/
def spacePartsCard : Claim7 := { stood := { row := spacePartsRow, standIns := [], harness := (true, "07be8bfeef4da4f8854fe50299c1264af0e829d0c927cdf30b0949323d18c5e1"), looks := true }, kinds := [], alts := [], laidByText := true, laidKinds := [.data, .data, .data, .data, .pinned], laidTests := true, laidLooks := .later }
def SpacePartsCardSaid : Prop := Claim7.holds Tryz.pinned (.plain (OpenSpec.ofChange spacePartsSpec)) spacePartsCard

/-- THE TIED CARD OF 'decklelaw18.SpaceOnes'. -/
def spaceOnesCard : Claim7 := { stood := { row := spaceOnesRow, standIns := [], harness := (true, "07be8bfeef4da4f8854fe50299c1264af0e829d0c927cdf30b0949323d18c5e1"), looks := true }, kinds := [], alts := [], laidByText := true, laidKinds := [.data, .data, .data, .data, .pinned], laidTests := true, laidLooks := .later }
def SpaceOnesCardSaid : Prop := Claim7.holds Tryz.pinned (.plain (OpenSpec.ofChange spaceOnesSpec)) spaceOnesCard

/-- THE TIED CARD OF 'decklelaw18.SpaceDrop'. -/
def spaceDropCard : Claim7 := { stood := { row := spaceDropRow, standIns := [], harness := (true, "07be8bfeef4da4f8854fe50299c1264af0e829d0c927cdf30b0949323d18c5e1"), looks := true }, kinds := [], alts := [], laidByText := true, laidKinds := [.data, .data, .data, .data, .pinned], laidTests := true, laidLooks := .later }
def SpaceDropCardSaid : Prop := Claim7.holds Tryz.pinned (.plain (OpenSpec.ofChange spaceDropSpec)) spaceDropCard

/-- THE TIED CARD OF 'decklelaw14.NotationTells'. -/
def notationTellsCard : Claim7 := { stood := { row := notationTellsRow, standIns := [], harness := (true, "07be8bfeef4da4f8854fe50299c1264af0e829d0c927cdf30b0949323d18c5e1"), looks := true }, kinds := [], alts := [], laidByText := true, laidKinds := [.data, .data, .data, .data, .sentinel, .sentinel, .pinned], laidTests := true, laidLooks := .later }
def NotationTellsCardSaid : Prop := Claim7.holds Tryz.pinned (.plain (OpenSpec.ofChange notationTellsSpec)) notationTellsCard

/-- THE TIED CARD OF 'decklelaw14.NotationBack'. -/
def notationBackCard : Claim7 := { stood := { row := notationBackRow, standIns := [], harness := (true, "07be8bfeef4da4f8854fe50299c1264af0e829d0c927cdf30b0949323d18c5e1"), looks := true }, kinds := [], alts := [], laidByText := true, laidKinds := [.data, .data, .data, .data, .sentinel, .sentinel, .pinned], laidTests := true, laidLooks := .later }
def NotationBackCardSaid : Prop := Claim7.holds Tryz.pinned (.plain (OpenSpec.ofChange notationBackSpec)) notationBackCard

/-- THE TIED CARD OF 'decklelaw14.NotationOnce'. -/
def notationOnceCard : Claim7 := { stood := { row := notationOnceRow, standIns := [], harness := (true, "07be8bfeef4da4f8854fe50299c1264af0e829d0c927cdf30b0949323d18c5e1"), looks := true }, kinds := [], alts := [], laidByText := true, laidKinds := [.data, .data, .data, .data, .sentinel, .sentinel, .pinned], laidTests := true, laidLooks := .later }
def NotationOnceCardSaid : Prop := Claim7.holds Tryz.pinned (.plain (OpenSpec.ofChange notationOnceSpec)) notationOnceCard

/-- THE TIED CARD OF 'decklelaw14.NotationNests'. -/
def notationNestsCard : Claim7 := { stood := { row := notationNestsRow, standIns := [], harness := (true, "07be8bfeef4da4f8854fe50299c1264af0e829d0c927cdf30b0949323d18c5e1"), looks := true }, kinds := [], alts := [], laidByText := true, laidKinds := [.data, .data, .data, .data, .sentinel, .sentinel, .pinned], laidTests := true, laidLooks := .later }
def NotationNestsCardSaid : Prop := Claim7.holds Tryz.pinned (.plain (OpenSpec.ofChange notationNestsSpec)) notationNestsCard

/-- THE TIED CARD OF 'decklelaw14.NotationRows'. -/
def notationRowsCard : Claim7 := { stood := { row := notationRowsRow, standIns := [], harness := (true, "07be8bfeef4da4f8854fe50299c1264af0e829d0c927cdf30b0949323d18c5e1"), looks := true }, kinds := [], alts := [], laidByText := true, laidKinds := [.data, .data, .data, .data, .sentinel, .sentinel, .pinned], laidTests := true, laidLooks := .later }
def NotationRowsCardSaid : Prop := Claim7.holds Tryz.pinned (.plain (OpenSpec.ofChange notationRowsSpec)) notationRowsCard

/-- THE TIED CARD OF 'decklelaw14.NotationAlone'. -/
def notationAloneCard : Claim7 := { stood := { row := notationAloneRow, standIns := [], harness := (true, "07be8bfeef4da4f8854fe50299c1264af0e829d0c927cdf30b0949323d18c5e1"), looks := true }, kinds := [], alts := [], laidByText := true, laidKinds := [.data, .data, .data, .data, .sentinel, .sentinel, .pinned], laidTests := true, laidLooks := .later }
def NotationAloneCardSaid : Prop := Claim7.holds Tryz.pinned (.plain (OpenSpec.ofChange notationAloneSpec)) notationAloneCard

/-- THE SECOND FORM's CARD OF 'decklelaw18.SpaceTells'. -/
def spaceTellsUptoCard : Claim7 := { stood := { row := spaceTellsUptoRow, standIns := [], harness := (true, "07be8bfeef4da4f8854fe50299c1264af0e829d0c927cdf30b0949323d18c5e1"), looks := true }, kinds := [], alts := [], laidByText := true, laidKinds := [.data, .data, .data, .data, .pinned], laidTests := true, laidLooks := .later }
def SpaceTellsUptoCardSaid : Prop := Claim7.holds Tryz.pinned (.plain (OpenSpec.upto spaceTellsSpec)) spaceTellsUptoCard

/-- THE SECOND FORM's CARD OF 'decklelaw18.SpaceOnce'. -/
def spaceOnceUptoCard : Claim7 := { stood := { row := spaceOnceUptoRow, standIns := [], harness := (true, "07be8bfeef4da4f8854fe50299c1264af0e829d0c927cdf30b0949323d18c5e1"), looks := true }, kinds := [], alts := [], laidByText := true, laidKinds := [.data, .data, .data, .data, .pinned], laidTests := true, laidLooks := .later }
def SpaceOnceUptoCardSaid : Prop := Claim7.holds Tryz.pinned (.plain (OpenSpec.upto spaceOnceSpec)) spaceOnceUptoCard

/-- THE SECOND FORM's CARD OF 'decklelaw18.SpaceParts'. -/
def spacePartsUptoCard : Claim7 := { stood := { row := spacePartsUptoRow, standIns := [], harness := (true, "07be8bfeef4da4f8854fe50299c1264af0e829d0c927cdf30b0949323d18c5e1"), looks := true }, kinds := [], alts := [], laidByText := true, laidKinds := [.data, .data, .data, .data, .pinned], laidTests := true, laidLooks := .later }
def SpacePartsUptoCardSaid : Prop := Claim7.holds Tryz.pinned (.plain (OpenSpec.upto spacePartsSpec)) spacePartsUptoCard

/-- THE SECOND FORM's CARD OF 'decklelaw18.SpaceOnes'. -/
def spaceOnesUptoCard : Claim7 := { stood := { row := spaceOnesUptoRow, standIns := [], harness := (true, "07be8bfeef4da4f8854fe50299c1264af0e829d0c927cdf30b0949323d18c5e1"), looks := true }, kinds := [], alts := [], laidByText := true, laidKinds := [.data, .data, .data, .data, .pinned], laidTests := true, laidLooks := .later }
def SpaceOnesUptoCardSaid : Prop := Claim7.holds Tryz.pinned (.plain (OpenSpec.upto spaceOnesSpec)) spaceOnesUptoCard

/-- THE SECOND FORM's CARD OF 'decklelaw18.SpaceDrop'. -/
def spaceDropUptoCard : Claim7 := { stood := { row := spaceDropUptoRow, standIns := [], harness := (true, "07be8bfeef4da4f8854fe50299c1264af0e829d0c927cdf30b0949323d18c5e1"), looks := true }, kinds := [], alts := [], laidByText := true, laidKinds := [.data, .data, .data, .data, .pinned], laidTests := true, laidLooks := .later }
def SpaceDropUptoCardSaid : Prop := Claim7.holds Tryz.pinned (.plain (OpenSpec.upto spaceDropSpec)) spaceDropUptoCard

/-- THE SECOND FORM's CARD OF 'decklelaw14.NotationTells'. -/
def notationTellsUptoCard : Claim7 := { stood := { row := notationTellsUptoRow, standIns := [], harness := (true, "07be8bfeef4da4f8854fe50299c1264af0e829d0c927cdf30b0949323d18c5e1"), looks := true }, kinds := [], alts := [], laidByText := true, laidKinds := [.data, .data, .data, .data, .sentinel, .sentinel, .pinned], laidTests := true, laidLooks := .later }
def NotationTellsUptoCardSaid : Prop := Claim7.holds Tryz.pinned (.plain (OpenSpec.upto notationTellsSpec)) notationTellsUptoCard

/-- THE SECOND FORM's CARD OF 'decklelaw14.NotationBack'. -/
def notationBackUptoCard : Claim7 := { stood := { row := notationBackUptoRow, standIns := [], harness := (true, "07be8bfeef4da4f8854fe50299c1264af0e829d0c927cdf30b0949323d18c5e1"), looks := true }, kinds := [], alts := [], laidByText := true, laidKinds := [.data, .data, .data, .data, .sentinel, .sentinel, .pinned], laidTests := true, laidLooks := .later }
def NotationBackUptoCardSaid : Prop := Claim7.holds Tryz.pinned (.plain (OpenSpec.upto notationBackSpec)) notationBackUptoCard

/-- THE SECOND FORM's CARD OF 'decklelaw14.NotationOnce'. -/
def notationOnceUptoCard : Claim7 := { stood := { row := notationOnceUptoRow, standIns := [], harness := (true, "07be8bfeef4da4f8854fe50299c1264af0e829d0c927cdf30b0949323d18c5e1"), looks := true }, kinds := [], alts := [], laidByText := true, laidKinds := [.data, .data, .data, .data, .sentinel, .sentinel, .pinned], laidTests := true, laidLooks := .later }
def NotationOnceUptoCardSaid : Prop := Claim7.holds Tryz.pinned (.plain (OpenSpec.upto notationOnceSpec)) notationOnceUptoCard

/-- THE SECOND FORM's CARD OF 'decklelaw14.NotationNests'. -/
def notationNestsUptoCard : Claim7 := { stood := { row := notationNestsUptoRow, standIns := [], harness := (true, "07be8bfeef4da4f8854fe50299c1264af0e829d0c927cdf30b0949323d18c5e1"), looks := true }, kinds := [], alts := [], laidByText := true, laidKinds := [.data, .data, .data, .data, .sentinel, .sentinel, .pinned], laidTests := true, laidLooks := .later }
def NotationNestsUptoCardSaid : Prop := Claim7.holds Tryz.pinned (.plain (OpenSpec.upto notationNestsSpec)) notationNestsUptoCard

/-- THE SECOND FORM's CARD OF 'decklelaw14.NotationRows'. -/
def notationRowsUptoCard : Claim7 := { stood := { row := notationRowsUptoRow, standIns := [], harness := (true, "07be8bfeef4da4f8854fe50299c1264af0e829d0c927cdf30b0949323d18c5e1"), looks := true }, kinds := [], alts := [], laidByText := true, laidKinds := [.data, .data, .data, .data, .sentinel, .sentinel, .pinned], laidTests := true, laidLooks := .later }
def NotationRowsUptoCardSaid : Prop := Claim7.holds Tryz.pinned (.plain (OpenSpec.upto notationRowsSpec)) notationRowsUptoCard

/-- THE SECOND FORM's CARD OF 'decklelaw14.NotationAlone'. -/
def notationAloneUptoCard : Claim7 := { stood := { row := notationAloneUptoRow, standIns := [], harness := (true, "07be8bfeef4da4f8854fe50299c1264af0e829d0c927cdf30b0949323d18c5e1"), looks := true }, kinds := [], alts := [], laidByText := true, laidKinds := [.data, .data, .data, .data, .sentinel, .sentinel, .pinned], laidTests := true, laidLooks := .later }
def NotationAloneUptoCardSaid : Prop := Claim7.holds Tryz.pinned (.plain (OpenSpec.upto notationAloneSpec)) notationAloneUptoCard
end Rows
end Go.Proofs.YtfdeheodjkpkkaaGreatDoor
