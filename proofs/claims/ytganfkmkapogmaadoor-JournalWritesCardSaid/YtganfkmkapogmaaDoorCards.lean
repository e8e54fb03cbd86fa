/-
  DERIVED. GIVEN WITH THE SEED: THE CARDS: each row of YtganfkmkapogmaaDoorRows.lean that lists a variable, with what it lists TIED to the program's text (the seventh form; the later family's looks); each row that meets fmt, with fmt's text TOLD by the authors' own Lean function (tested against real Go, not proved from fmt's source: count such statements apart). THE CARD IS WHAT COUNTS. Prove the row's statement (the work); the ties are given (YtganfkmkapogmaaDoorTie.lean); close each card by the builder's one call (the guide's Derived/Test/ToyasCard.lean, 'card_holds'). Laid BY PROGRAM, IN A SANDBOX (cutbox-door.mjs). By AI agents, Wed Nov 11 2026. No macro, syntax, notation, axiom, sorry.
-/
import Derived.Test.YtganfkmkapogmaaDoorRows
import GoSem.ClaimSeven
namespace Go.Proofs.YtganfkmkapogmaaDoor
namespace Rows

/-- THE TIED CARD OF 'sortitionlaw11.JournalReplays'. -/
def journalReplaysCard : Claim7 := { stood := { row := journalReplaysRow, standIns := [], harness := (true, "08bc5c879fb1ce913d0830d780b3166fd6bdf8ad17e18db0e2d9fe4a6f3966e9"), looks := false }, kinds := [], alts := [], laidByText := true, laidKinds := [.data, .data], laidTests := true, laidLooks := .later }
def JournalReplaysCardSaid : Prop := Claim7.holds Tryd.pinned (.plain (OpenSpec.ofChange journalReplaysSpec)) journalReplaysCard

/-- THE TIED CARD OF 'sortitionlaw11.JournalWrites'. -/
def journalWritesCard : Claim7 := { stood := { row := journalWritesRow, standIns := [], harness := (true, "08bc5c879fb1ce913d0830d780b3166fd6bdf8ad17e18db0e2d9fe4a6f3966e9"), looks := false }, kinds := [], alts := [], laidByText := true, laidKinds := [.data, .data], laidTests := true, laidLooks := .later }
def JournalWritesCardSaid : Prop := Claim7.holds Tryd.pinned (.plain (OpenSpec.ofChange journalWritesSpec)) journalWritesCard

/-- THE TIED CARD OF 'sortitionlaw11.JournalBreaks'. -/
def journalBreaksCard : Claim7 := { stood := { row := journalBreaksRow, standIns := [], harness := (true, "08bc5c879fb1ce913d0830d780b3166fd6bdf8ad17e18db0e2d9fe4a6f3966e9"), looks := false }, kinds := [], alts := [], laidByText := true, laidKinds := [.data, .data], laidTests := true, laidLooks := .later }
def JournalBreaksCardSaid : Prop := Claim7.holds Tryd.pinned (.plain (OpenSpec.ofChange journalBreaksSpec)) journalBreaksCard

/-- THE TIED CARD OF 'sortitionlaw11.JournalSpoilt'. -/
def journalSpoiltCard : Claim7 := { stood := { row := journalSpoiltRow, standIns := [], harness := (true, "08bc5c879fb1ce913d0830d780b3166fd6bdf8ad17e18db0e2d9fe4a6f3966e9"), looks := false }, kinds := [], alts := [], laidByText := true, laidKinds := [.data, .data], laidTests := true, laidLooks := .later }
def JournalSpoiltCardSaid : Prop := Claim7.holds Tryd.pinned (.plain (OpenSpec.ofChange journalSpoiltSpec)) journalSpoiltCard

/-- THE TIED CARD OF 'sortitionlaw11.JournalAgain'. -/
def journalAgainCard : Claim7 := { stood := { row := journalAgainRow, standIns := [], harness := (true, "08bc5c879fb1ce913d0830d780b3166fd6bdf8ad17e18db0e2d9fe4a6f3966e9"), looks := false }, kinds := [], alts := [], laidByText := true, laidKinds := [.data, .data], laidTests := true, laidLooks := .later }
def JournalAgainCardSaid : Prop := Claim7.holds Tryd.pinned (.plain (OpenSpec.ofChange journalAgainSpec)) journalAgainCard

/-- THE SECOND FORM's CARD OF 'sortitionlaw11.JournalReplays'. -/
def journalReplaysUptoCard : Claim7 := { stood := { row := journalReplaysUptoRow, standIns := [], harness := (true, "08bc5c879fb1ce913d0830d780b3166fd6bdf8ad17e18db0e2d9fe4a6f3966e9"), looks := false }, kinds := [], alts := [], laidByText := true, laidKinds := [.data, .data], laidTests := true, laidLooks := .later }
def JournalReplaysUptoCardSaid : Prop := Claim7.holds Tryd.pinned (.plain (OpenSpec.upto journalReplaysSpec)) journalReplaysUptoCard

/-- THE SECOND FORM's CARD OF 'sortitionlaw11.JournalWrites'. -/
def journalWritesUptoCard : Claim7 := { stood := { row := journalWritesUptoRow, standIns := [], harness := (true, "08bc5c879fb1ce913d0830d780b3166fd6bdf8ad17e18db0e2d9fe4a6f3966e9"), looks := false }, kinds := [], alts := [], laidByText := true, laidKinds := [.data, .data], laidTests := true, laidLooks := .later }
def JournalWritesUptoCardSaid : Prop := Claim7.holds Tryd.pinned (.plain (OpenSpec.upto journalWritesSpec)) journalWritesUptoCard

/-- THE SECOND FORM's CARD OF 'sortitionlaw11.JournalBreaks'. -/
def journalBreaksUptoCard : Claim7 := { stood := { row := journalBreaksUptoRow, standIns := [], harness := (true, "08bc5c879fb1ce913d0830d780b3166fd6bdf8ad17e18db0e2d9fe4a6f3966e9"), looks := false }, kinds := [], alts := [], laidByText := true, laidKinds := [.data, .data], laidTests := true, laidLooks := .later }
def JournalBreaksUptoCardSaid : Prop := Claim7.holds Tryd.pinned (.plain (OpenSpec.upto journalBreaksSpec)) journalBreaksUptoCard

/-- THE SECOND FORM's CARD OF 'sortitionlaw11.JournalSpoilt'. -/
def journalSpoiltUptoCard : Claim7 := { stood := { row := journalSpoiltUptoRow, standIns := [], harness := (true, "08bc5c879fb1ce913d0830d780b3166fd6bdf8ad17e18db0e2d9fe4a6f3966e9"), looks := false }, kinds := [], alts := [], laidByText := true, laidKinds := [.data, .data], laidTests := true, laidLooks := .later }
def JournalSpoiltUptoCardSaid : Prop := Claim7.holds Tryd.pinned (.plain (OpenSpec.upto journalSpoiltSpec)) journalSpoiltUptoCard

/-- THE SECOND FORM's CARD OF 'sortitionlaw11.JournalAgain'. -/
def journalAgainUptoCard : Claim7 := { stood := { row := journalAgainUptoRow, standIns := [], harness := (true, "08bc5c879fb1ce913d0830d780b3166fd6bdf8ad17e18db0e2d9fe4a6f3966e9"), looks := false }, kinds := [], alts := [], laidByText := true, laidKinds := [.data, .data], laidTests := true, laidLooks := .later }
def JournalAgainUptoCardSaid : Prop := Claim7.holds Tryd.pinned (.plain (OpenSpec.upto journalAgainSpec)) journalAgainUptoCard
end Rows
end Go.Proofs.YtganfkmkapogmaaDoor
