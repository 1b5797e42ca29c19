/-
  DERIVED. GIVEN WITH THE SEED: THE CARDS: each row of YtpkjiplgpgbheaaGreatDoorRows.lean that lists a variable, with what it lists TIED to the program's text (the seventh form; the later family's looks); each row that meets fmt, with fmt's text TOLD by the authors' own Lean function (tested against real Go, not proved from fmt's source: count such statements apart). THE CARD IS WHAT COUNTS. Prove the row's statement (the work); the ties are given (YtpkjiplgpgbheaaGreatDoorTie.lean); close each card by the builder's one call (the guide's Derived/Test/ToyasCard.lean, 'card_holds'). Laid BY PROGRAM, IN A SANDBOX (cutbox-door.mjs). By AI agents, Wed Nov 11 2026. No macro, syntax, notation, axiom, sorry.
-/
import Derived.Test.YtpkjiplgpgbheaaGreatDoorRows
import GoSem.ClaimSeven
namespace Go.Proofs.YtpkjiplgpgbheaaGreatDoor
namespace Rows

/-- THE TIED CARD OF 'decklelaw24.ArchiveWrites'. -/
def archiveWritesCard : Claim7 := { stood := { row := archiveWritesRow, standIns := [], harness := (true, "73b76fa1ff7791ba9229562c267405e625df78b69748c8d0a3c1584daebe30e6"), looks := true }, kinds := [], alts := [], laidByText := true, laidKinds := [.data, .data, .data, .data, .pinned], laidTests := true, laidLooks := .later }
def ArchiveWritesCardSaid : Prop := Claim7.holds Tryz.pinned (.plain (OpenSpec.ofChange archiveWritesSpec)) archiveWritesCard

/-- THE TIED CARD OF 'decklelaw24.ArchiveBack'. -/
def archiveBackCard : Claim7 := { stood := { row := archiveBackRow, standIns := [], harness := (true, "73b76fa1ff7791ba9229562c267405e625df78b69748c8d0a3c1584daebe30e6"), looks := true }, kinds := [], alts := [], laidByText := true, laidKinds := [.data, .data, .data, .data, .pinned], laidTests := true, laidLooks := .later }
def ArchiveBackCardSaid : Prop := Claim7.holds Tryz.pinned (.plain (OpenSpec.ofChange archiveBackSpec)) archiveBackCard

/-- THE TIED CARD OF 'decklelaw24.ArchiveMore'. -/
def archiveMoreCard : Claim7 := { stood := { row := archiveMoreRow, standIns := [], harness := (true, "73b76fa1ff7791ba9229562c267405e625df78b69748c8d0a3c1584daebe30e6"), looks := true }, kinds := [], alts := [], laidByText := true, laidKinds := [.data, .data, .data, .data, .pinned], laidTests := true, laidLooks := .later }
def ArchiveMoreCardSaid : Prop := Claim7.holds Tryz.pinned (.plain (OpenSpec.ofChange archiveMoreSpec)) archiveMoreCard

/-- THE TIED CARD OF 'decklelaw24.ArchiveApart'. -/
def archiveApartCard : Claim7 := { stood := { row := archiveApartRow, standIns := [], harness := (true, "73b76fa1ff7791ba9229562c267405e625df78b69748c8d0a3c1584daebe30e6"), looks := true }, kinds := [], alts := [], laidByText := true, laidKinds := [.data, .data, .data, .data, .pinned], laidTests := true, laidLooks := .later }
def ArchiveApartCardSaid : Prop := Claim7.holds Tryz.pinned (.plain (OpenSpec.ofChange archiveApartSpec)) archiveApartCard

/-- THE TIED CARD OF 'decklelaw14.NotationTells'. -/
def notationTellsCard : Claim7 := { stood := { row := notationTellsRow, standIns := [], harness := (true, "73b76fa1ff7791ba9229562c267405e625df78b69748c8d0a3c1584daebe30e6"), looks := true }, kinds := [], alts := [], laidByText := true, laidKinds := [.data, .data, .data, .data, .sentinel, .sentinel, .pinned], laidTests := true, laidLooks := .later }
def NotationTellsCardSaid : Prop := Claim7.holds Tryz.pinned (.plain (OpenSpec.ofChange notationTellsSpec)) notationTellsCard

/-- THE TIED CARD OF 'decklelaw14.NotationBack'. -/
def notationBackCard : Claim7 := { stood := { row := notationBackRow, standIns := [], harness := (true, "73b76fa1ff7791ba9229562c267405e625df78b69748c8d0a3c1584daebe30e6"), looks := true }, kinds := [], alts := [], laidByText := true, laidKinds := [.data, .data, .data, .data, .sentinel, .sentinel, .pinned], laidTests := true, laidLooks := .later }
def NotationBackCardSaid : Prop := Claim7.holds Tryz.pinned (.plain (OpenSpec.ofChange notationBackSpec)) notationBackCard

/-- THE TIED CARD OF 'decklelaw14.NotationOnce'. -/
def notationOnceCard : Claim7 := { stood := { row := notationOnceRow, standIns := [], harness := (true, "73b76fa1ff7791ba9229562c267405e625df78b69748c8d0a3c1584daebe30e6"), looks := true }, kinds := [], alts := [], laidByText := true, laidKinds := [.data, .data, .data, .data, .sentinel, .sentinel, .pinned], laidTests := true, laidLooks := .later }
def NotationOnceCardSaid : Prop := Claim7.holds Tryz.pinned (.plain (OpenSpec.ofChange notationOnceSpec)) notationOnceCard

/-- THE TIED CARD OF 'decklelaw14.NotationNests'. -/
def notationNestsCard : Claim7 := { stood := { row := notationNestsRow, standIns := [], harness := (true, "73b76fa1ff7791ba9229562c267405e625df78b69748c8d0a3c1584daebe30e6"), looks := true }, kinds := [], alts := [], laidByText := true, laidKinds := [.data, .data, .data, .data, .sentinel, .sentinel, .pinned], laidTests := true, laidLooks := .later }
def NotationNestsCardSaid : Prop := Claim7.holds Tryz.pinned (.plain (OpenSpec.ofChange notationNestsSpec)) notationNestsCard

/-- THE TIED CARD OF 'decklelaw14.NotationRows'. -/
def notationRowsCard : Claim7 := { stood := { row := notationRowsRow, standIns := [], harness := (true, "73b76fa1ff7791ba9229562c267405e625df78b69748c8d0a3c1584daebe30e6"), looks := true }, kinds := [], alts := [], laidByText := true, laidKinds := [.data, .data, .data, .data, .sentinel, .sentinel, .pinned], laidTests := true, laidLooks := .later }
def NotationRowsCardSaid : Prop := Claim7.holds Tryz.pinned (.plain (OpenSpec.ofChange notationRowsSpec)) notationRowsCard

/-- THE TIED CARD OF 'decklelaw14.NotationAlone'. -/
def notationAloneCard : Claim7 := { stood := { row := notationAloneRow, standIns := [], harness := (true, "73b76fa1ff7791ba9229562c267405e625df78b69748c8d0a3c1584daebe30e6"), looks := true }, kinds := [], alts := [], laidByText := true, laidKinds := [.data, .data, .data, .data, .sentinel, .sentinel, .pinned], laidTests := true, laidLooks := .later }
def NotationAloneCardSaid : Prop := Claim7.holds Tryz.pinned (.plain (OpenSpec.ofChange notationAloneSpec)) notationAloneCard

/-- THE TIED CARD OF 'decklelaw18.SpaceTells'. -/
def spaceTellsCard : Claim7 := { stood := { row := spaceTellsRow, standIns := [], harness := (true, "73b76fa1ff7791ba9229562c267405e625df78b69748c8d0a3c1584daebe30e6"), looks := true }, kinds := [], alts := [], laidByText := true, laidKinds := [.data, .data, .data, .data, .pinned], laidTests := true, laidLooks := .later }
def SpaceTellsCardSaid : Prop := Claim7.holds Tryz.pinned (.plain (OpenSpec.ofChange spaceTellsSpec)) spaceTellsCard

/-- THE SECOND FORM's CARD OF 'decklelaw24.ArchiveWrites'. -/
def archiveWritesUptoCard : Claim7 := { stood := { row := archiveWritesUptoRow, standIns := [], harness := (true, "73b76fa1ff7791ba9229562c267405e625df78b69748c8d0a3c1584daebe30e6"), looks := true }, kinds := [], alts := [], laidByText := true, laidKinds := [.data, .data, .data, .data, .pinned], laidTests := true, laidLooks := .later }
def ArchiveWritesUptoCardSaid : Prop := Claim7.holds Tryz.pinned (.plain (OpenSpec.upto archiveWritesSpec)) archiveWritesUptoCard

/-- THE SECOND FORM's CARD OF 'decklelaw24.ArchiveBack'. -/
def archiveBackUptoCard : Claim7 := { stood := { row := archiveBackUptoRow, standIns := [], harness := (true, "73b76fa1ff7791ba9229562c267405e625df78b69748c8d0a3c1584daebe30e6"), looks := true }, kinds := [], alts := [], laidByText := true, laidKinds := [.data, .data, .data, .data, .pinned], laidTests := true, laidLooks := .later }
def ArchiveBackUptoCardSaid : Prop := Claim7.holds Tryz.pinned (.plain (OpenSpec.upto archiveBackSpec)) archiveBackUptoCard

/-- THE SECOND FORM's CARD OF 'decklelaw24.ArchiveMore'. -/
def archiveMoreUptoCard : Claim7 := { stood := { row := archiveMoreUptoRow, standIns := [], harness := (true, "73b76fa1ff7791ba9229562c267405e625df78b69748c8d0a3c1584daebe30e6"), looks := true }, kinds := [], alts := [], laidByText := true, laidKinds := [.data, .data, .data, .data, .pinned], laidTests := true, laidLooks := .later }
def ArchiveMoreUptoCardSaid : Prop := Claim7.holds Tryz.pinned (.plain (OpenSpec.upto archiveMoreSpec)) archiveMoreUptoCard

/-- THE SECOND FORM's CARD OF 'decklelaw24.ArchiveApart'. -/
def archiveApartUptoCard : Claim7 := { stood := { row := archiveApartUptoRow, standIns := [], harness := (true, "73b76fa1ff7791ba9229562c267405e625df78b69748c8d0a3c1584daebe30e6"), looks := true }, kinds := [], alts := [], laidByText := true, laidKinds := [.data, .data, .data, .data, .pinned], laidTests := true, laidLooks := .later }
def ArchiveApartUptoCardSaid : Prop := Claim7.holds Tryz.pinned (.plain (OpenSpec.upto archiveApartSpec)) archiveApartUptoCard

/-- THE SECOND FORM's CARD OF 'decklelaw14.NotationTells'. -/
def notationTellsUptoCard : Claim7 := { stood := { row := notationTellsUptoRow, standIns := [], harness := (true, "73b76fa1ff7791ba9229562c267405e625df78b69748c8d0a3c1584daebe30e6"), looks := true }, kinds := [], alts := [], laidByText := true, laidKinds := [.data, .data, .data, .data, .sentinel, .sentinel, .pinned], laidTests := true, laidLooks := .later }
def NotationTellsUptoCardSaid : Prop := Claim7.holds Tryz.pinned (.plain (OpenSpec.upto notationTellsSpec)) notationTellsUptoCard

/-- THE SECOND FORM's CARD OF 'decklelaw14.NotationBack'. -/
def notationBackUptoCard : Claim7 := { stood := { row := notationBackUptoRow, standIns := [], harness := (true, "73b76fa1ff7791ba9229562c267405e625df78b69748c8d0a3c1584daebe30e6"), looks := true }, kinds := [], alts := [], laidByText := true, laidKinds := [.data, .data, .data, .data, .sentinel, .sentinel, .pinned], laidTests := true, laidLooks := .later }
def NotationBackUptoCardSaid : Prop := Claim7.holds Tryz.pinned (.plain (OpenSpec.upto notationBackSpec)) notationBackUptoCard

/-- THE SECOND FORM's CARD OF 'decklelaw14.NotationOnce'. -/
def notationOnceUptoCard : Claim7 := { stood := { row := notationOnceUptoRow, standIns := [], harness := (true, "73b76fa1ff7791ba9229562c267405e625df78b69748c8d0a3c1584daebe30e6"), looks := true }, kinds := [], alts := [], laidByText := true, laidKinds := [.data, .data, .data, .data, .sentinel, .sentinel, .pinned], laidTests := true, laidLooks := .later }
def NotationOnceUptoCardSaid : Prop := Claim7.holds Tryz.pinned (.plain (OpenSpec.upto notationOnceSpec)) notationOnceUptoCard

/-- THE SECOND FORM's CARD OF 'decklelaw14.NotationNests'. -/
def notationNestsUptoCard : Claim7 := { stood := { row := notationNestsUptoRow, standIns := [], harness := (true, "73b76fa1ff7791ba9229562c267405e625df78b69748c8d0a3c1584daebe30e6"), looks := true }, kinds := [], alts := [], laidByText := true, laidKinds := [.data, .data, .data, .data, .sentinel, .sentinel, .pinned], laidTests := true, laidLooks := .later }
def NotationNestsUptoCardSaid : Prop := Claim7.holds Tryz.pinned (.plain (OpenSpec.upto notationNestsSpec)) notationNestsUptoCard

/-- THE SECOND FORM's CARD OF 'decklelaw14.NotationRows'. -/
def notationRowsUptoCard : Claim7 := { stood := { row := notationRowsUptoRow, standIns := [], harness := (true, "73b76fa1ff7791ba9229562c267405e625df78b69748c8d0a3c1584daebe30e6"), looks := true }, kinds := [], alts := [], laidByText := true, laidKinds := [.data, .data, .data, .data, .sentinel, .sentinel, .pinned], laidTests := true, laidLooks := .later }
def NotationRowsUptoCardSaid : Prop := Claim7.holds Tryz.pinned (.plain (OpenSpec.upto notationRowsSpec)) notationRowsUptoCard

/-- THE SECOND FORM's CARD OF 'decklelaw14.NotationAlone'. -/
def notationAloneUptoCard : Claim7 := { stood := { row := notationAloneUptoRow, standIns := [], harness := (true, "73b76fa1ff7791ba9229562c267405e625df78b69748c8d0a3c1584daebe30e6"), looks := true }, kinds := [], alts := [], laidByText := true, laidKinds := [.data, .data, .data, .data, .sentinel, .sentinel, .pinned], laidTests := true, laidLooks := .later }
def NotationAloneUptoCardSaid : Prop := Claim7.holds Tryz.pinned (.plain (OpenSpec.upto notationAloneSpec)) notationAloneUptoCard

/-- THE SECOND FORM's CARD OF 'decklelaw18.SpaceTells'. -/
def spaceTellsUptoCard : Claim7 := { stood := { row := spaceTellsUptoRow, standIns := [], harness := (true, "73b76fa1ff7791ba9229562c267405e625df78b69748c8d0a3c1584daebe30e6"), looks := true }, kinds := [], alts := [], laidByText := true, laidKinds := [.data, .data, .data, .data, .pinned], laidTests := true, laidLooks := .later }
def SpaceTellsUptoCardSaid : Prop := Claim7.holds Tryz.pinned (.plain (OpenSpec.upto spaceTellsSpec)) spaceTellsUptoCard
end Rows
end Go.Proofs.YtpkjiplgpgbheaaGreatDoor
