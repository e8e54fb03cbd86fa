/-
  DERIVED. GIVEN WITH THE SEED: THE CARDS: each row of YtmhiapebljfebaaGreatDoorRows.lean that lists a variable, with what it lists TIED to the program's text (the seventh form; the later family's looks); each row that meets fmt, with fmt's text TOLD by the authors' own Lean function (tested against real Go, not proved from fmt's source: count such statements apart). THE CARD IS WHAT COUNTS. Prove the row's statement (the work); the ties are given (YtmhiapebljfebaaGreatDoorTie.lean); close each card by the builder's one call (the guide's Derived/Test/ToyasCard.lean, 'card_holds'). Laid BY PROGRAM, IN A SANDBOX (cutbox-door.mjs). By AI agents, Wed Nov 11 2026. No macro, syntax, notation, axiom, sorry.
-/
import Derived.Test.YtmhiapebljfebaaGreatDoorRows
import GoSem.ClaimSeven
namespace Go.Proofs.YtmhiapebljfebaaGreatDoor
namespace Rows

/-- THE TIED CARD OF 'sortitionlaw21.EpochFaults'. -/
def epochFaultsCard : Claim7 := { stood := { row := epochFaultsRow, standIns := [], harness := (true, "05b11c6aee417151d22fc34c8687cef0aa3f798514f9f20a46b6c7a415c0c7bc"), looks := true }, kinds := [], alts := [], laidByText := true, laidKinds := [.data, .data, .data, .data], laidTests := true, laidLooks := .later }
def EpochFaultsCardSaid : Prop := Claim7.holds Tryz.pinned (.plain (OpenSpec.ofChange epochFaultsSpec)) epochFaultsCard

/-- THE TIED CARD OF 'sortitionlaw21.EpochBound'. -/
def epochBoundCard : Claim7 := { stood := { row := epochBoundRow, standIns := [], harness := (true, "05b11c6aee417151d22fc34c8687cef0aa3f798514f9f20a46b6c7a415c0c7bc"), looks := true }, kinds := [], alts := [], laidByText := true, laidKinds := [.data, .data, .data, .data, .data, .data], laidTests := true, laidLooks := .later }
def EpochBoundCardSaid : Prop := Claim7.holds Tryz.pinned (.plain (OpenSpec.ofChange epochBoundSpec)) epochBoundCard

/-- THE TIED CARD OF 'sortitionlaw21.EpochQuiet'. -/
def epochQuietCard : Claim7 := { stood := { row := epochQuietRow, standIns := [], harness := (true, "05b11c6aee417151d22fc34c8687cef0aa3f798514f9f20a46b6c7a415c0c7bc"), looks := true }, kinds := [], alts := [], laidByText := true, laidKinds := [.data, .data, .data, .data, .data, .data], laidTests := true, laidLooks := .later }
def EpochQuietCardSaid : Prop := Claim7.holds Tryz.pinned (.plain (OpenSpec.ofChange epochQuietSpec)) epochQuietCard

/-- THE TIED CARD OF 'sortitionlaw21.EpochHonest'. -/
def epochHonestCard : Claim7 := { stood := { row := epochHonestRow, standIns := [], harness := (true, "05b11c6aee417151d22fc34c8687cef0aa3f798514f9f20a46b6c7a415c0c7bc"), looks := true }, kinds := [], alts := [], laidByText := true, laidKinds := [.data, .data, .data, .data, .data, .data], laidTests := true, laidLooks := .later }
def EpochHonestCardSaid : Prop := Claim7.holds Tryz.pinned (.plain (OpenSpec.ofChange epochHonestSpec)) epochHonestCard

/-- THE TIED CARD OF 'sortitionlaw21.EpochPlays'. -/
def epochPlaysCard : Claim7 := { stood := { row := epochPlaysRow, standIns := [], harness := (true, "05b11c6aee417151d22fc34c8687cef0aa3f798514f9f20a46b6c7a415c0c7bc"), looks := true }, kinds := [], alts := [], laidByText := true, laidKinds := [.data, .data, .data, .data, .data, .data], laidTests := true, laidLooks := .later }
def EpochPlaysCardSaid : Prop := Claim7.holds Tryz.pinned (.plain (OpenSpec.ofChange epochPlaysSpec)) epochPlaysCard

/-- THE TIED CARD OF 'sortitionlaw21.EpochTxs'. -/
def epochTxsCard : Claim7 := { stood := { row := epochTxsRow, standIns := [], harness := (true, "05b11c6aee417151d22fc34c8687cef0aa3f798514f9f20a46b6c7a415c0c7bc"), looks := true }, kinds := [], alts := [], laidByText := true, laidKinds := [.data, .data, .data, .data], laidTests := true, laidLooks := .later }
def EpochTxsCardSaid : Prop := Claim7.holds Tryz.pinned (.plain (OpenSpec.ofChange epochTxsSpec)) epochTxsCard

/-- THE SECOND FORM's CARD OF 'sortitionlaw21.EpochFaults'. -/
def epochFaultsUptoCard : Claim7 := { stood := { row := epochFaultsUptoRow, standIns := [], harness := (true, "05b11c6aee417151d22fc34c8687cef0aa3f798514f9f20a46b6c7a415c0c7bc"), looks := true }, kinds := [], alts := [], laidByText := true, laidKinds := [.data, .data, .data, .data], laidTests := true, laidLooks := .later }
def EpochFaultsUptoCardSaid : Prop := Claim7.holds Tryz.pinned (.plain (OpenSpec.upto epochFaultsSpec)) epochFaultsUptoCard

/-- THE SECOND FORM's CARD OF 'sortitionlaw21.EpochBound'. -/
def epochBoundUptoCard : Claim7 := { stood := { row := epochBoundUptoRow, standIns := [], harness := (true, "05b11c6aee417151d22fc34c8687cef0aa3f798514f9f20a46b6c7a415c0c7bc"), looks := true }, kinds := [], alts := [], laidByText := true, laidKinds := [.data, .data, .data, .data, .data, .data], laidTests := true, laidLooks := .later }
def EpochBoundUptoCardSaid : Prop := Claim7.holds Tryz.pinned (.plain (OpenSpec.upto epochBoundSpec)) epochBoundUptoCard

/-- THE SECOND FORM's CARD OF 'sortitionlaw21.EpochQuiet'. -/
def epochQuietUptoCard : Claim7 := { stood := { row := epochQuietUptoRow, standIns := [], harness := (true, "05b11c6aee417151d22fc34c8687cef0aa3f798514f9f20a46b6c7a415c0c7bc"), looks := true }, kinds := [], alts := [], laidByText := true, laidKinds := [.data, .data, .data, .data, .data, .data], laidTests := true, laidLooks := .later }
def EpochQuietUptoCardSaid : Prop := Claim7.holds Tryz.pinned (.plain (OpenSpec.upto epochQuietSpec)) epochQuietUptoCard

/-- THE SECOND FORM's CARD OF 'sortitionlaw21.EpochHonest'. -/
def epochHonestUptoCard : Claim7 := { stood := { row := epochHonestUptoRow, standIns := [], harness := (true, "05b11c6aee417151d22fc34c8687cef0aa3f798514f9f20a46b6c7a415c0c7bc"), looks := true }, kinds := [], alts := [], laidByText := true, laidKinds := [.data, .data, .data, .data, .data, .data], laidTests := true, laidLooks := .later }
def EpochHonestUptoCardSaid : Prop := Claim7.holds Tryz.pinned (.plain (OpenSpec.upto epochHonestSpec)) epochHonestUptoCard

/-- THE SECOND FORM's CARD OF 'sortitionlaw21.EpochPlays'. -/
def epochPlaysUptoCard : Claim7 := { stood := { row := epochPlaysUptoRow, standIns := [], harness := (true, "05b11c6aee417151d22fc34c8687cef0aa3f798514f9f20a46b6c7a415c0c7bc"), looks := true }, kinds := [], alts := [], laidByText := true, laidKinds := [.data, .data, .data, .data, .data, .data], laidTests := true, laidLooks := .later }
def EpochPlaysUptoCardSaid : Prop := Claim7.holds Tryz.pinned (.plain (OpenSpec.upto epochPlaysSpec)) epochPlaysUptoCard

/-- THE SECOND FORM's CARD OF 'sortitionlaw21.EpochTxs'. -/
def epochTxsUptoCard : Claim7 := { stood := { row := epochTxsUptoRow, standIns := [], harness := (true, "05b11c6aee417151d22fc34c8687cef0aa3f798514f9f20a46b6c7a415c0c7bc"), looks := true }, kinds := [], alts := [], laidByText := true, laidKinds := [.data, .data, .data, .data], laidTests := true, laidLooks := .later }
def EpochTxsUptoCardSaid : Prop := Claim7.holds Tryz.pinned (.plain (OpenSpec.upto epochTxsSpec)) epochTxsUptoCard
end Rows
end Go.Proofs.YtmhiapebljfebaaGreatDoor
