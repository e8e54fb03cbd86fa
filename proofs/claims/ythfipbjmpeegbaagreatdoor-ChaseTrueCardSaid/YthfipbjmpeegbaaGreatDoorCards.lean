/-
  DERIVED. GIVEN WITH THE SEED: THE CARDS: each row of YthfipbjmpeegbaaGreatDoorRows.lean that lists a variable, with what it lists TIED to the program's text (the seventh form; the later family's looks); each row that meets fmt, with fmt's text TOLD by the authors' own Lean function (tested against real Go, not proved from fmt's source: count such statements apart). THE CARD IS WHAT COUNTS. Prove the row's statement (the work); the ties are given (YthfipbjmpeegbaaGreatDoorTie.lean); close each card by the builder's one call (the guide's Derived/Test/ToyasCard.lean, 'card_holds'). Laid BY PROGRAM, IN A SANDBOX (cutbox-door.mjs). By AI agents, Wed Nov 11 2026. No macro, syntax, notation, axiom, sorry.
-/
import Derived.Test.YthfipbjmpeegbaaGreatDoorRows
import GoSem.ClaimSeven
namespace Go.Proofs.YthfipbjmpeegbaaGreatDoor
namespace Rows

/-- THE TIED CARD OF 'sortitionlaw19.ChaseTurned'. -/
def chaseTurnedCard : Claim7 := { stood := { row := chaseTurnedRow, standIns := [], harness := (true, "3fc9152ece7278b356a1057fe7abbaced193a426aa2e763efd33e8aec4c78d16"), looks := false }, kinds := [], alts := [], laidByText := true, laidKinds := [.data, .data, .data], laidTests := true, laidLooks := .later }
def ChaseTurnedCardSaid : Prop := Claim7.holds Tryz.pinned (.plain (OpenSpec.ofChange chaseTurnedSpec)) chaseTurnedCard

/-- THE TIED CARD OF 'sortitionlaw19.ChaseForgets'. -/
def chaseForgetsCard : Claim7 := { stood := { row := chaseForgetsRow, standIns := [], harness := (true, "3fc9152ece7278b356a1057fe7abbaced193a426aa2e763efd33e8aec4c78d16"), looks := false }, kinds := [], alts := [], laidByText := true, laidKinds := [.data, .data, .data], laidTests := true, laidLooks := .later }
def ChaseForgetsCardSaid : Prop := Claim7.holds Tryz.pinned (.plain (OpenSpec.ofChange chaseForgetsSpec)) chaseForgetsCard

/-- THE TIED CARD OF 'sortitionlaw19.ChaseAnswers'. -/
def chaseAnswersCard : Claim7 := { stood := { row := chaseAnswersRow, standIns := [], harness := (true, "3fc9152ece7278b356a1057fe7abbaced193a426aa2e763efd33e8aec4c78d16"), looks := false }, kinds := [], alts := [], laidByText := true, laidKinds := [.data, .data, .data], laidTests := true, laidLooks := .later }
def ChaseAnswersCardSaid : Prop := Claim7.holds Tryz.pinned (.plain (OpenSpec.ofChange chaseAnswersSpec)) chaseAnswersCard

/-- THE TIED CARD OF 'sortitionlaw19.ChaseTrue'. -/
def chaseTrueCard : Claim7 := { stood := { row := chaseTrueRow, standIns := [], harness := (true, "3fc9152ece7278b356a1057fe7abbaced193a426aa2e763efd33e8aec4c78d16"), looks := false }, kinds := [], alts := [], laidByText := true, laidKinds := [.data, .data, .data], laidTests := true, laidLooks := .later }
def ChaseTrueCardSaid : Prop := Claim7.holds Tryz.pinned (.plain (OpenSpec.ofChange chaseTrueSpec)) chaseTrueCard

/-- THE SECOND FORM's CARD OF 'sortitionlaw19.ChaseTurned'. -/
def chaseTurnedUptoCard : Claim7 := { stood := { row := chaseTurnedUptoRow, standIns := [], harness := (true, "3fc9152ece7278b356a1057fe7abbaced193a426aa2e763efd33e8aec4c78d16"), looks := false }, kinds := [], alts := [], laidByText := true, laidKinds := [.data, .data, .data], laidTests := true, laidLooks := .later }
def ChaseTurnedUptoCardSaid : Prop := Claim7.holds Tryz.pinned (.plain (OpenSpec.upto chaseTurnedSpec)) chaseTurnedUptoCard

/-- THE SECOND FORM's CARD OF 'sortitionlaw19.ChaseForgets'. -/
def chaseForgetsUptoCard : Claim7 := { stood := { row := chaseForgetsUptoRow, standIns := [], harness := (true, "3fc9152ece7278b356a1057fe7abbaced193a426aa2e763efd33e8aec4c78d16"), looks := false }, kinds := [], alts := [], laidByText := true, laidKinds := [.data, .data, .data], laidTests := true, laidLooks := .later }
def ChaseForgetsUptoCardSaid : Prop := Claim7.holds Tryz.pinned (.plain (OpenSpec.upto chaseForgetsSpec)) chaseForgetsUptoCard

/-- THE SECOND FORM's CARD OF 'sortitionlaw19.ChaseAnswers'. -/
def chaseAnswersUptoCard : Claim7 := { stood := { row := chaseAnswersUptoRow, standIns := [], harness := (true, "3fc9152ece7278b356a1057fe7abbaced193a426aa2e763efd33e8aec4c78d16"), looks := false }, kinds := [], alts := [], laidByText := true, laidKinds := [.data, .data, .data], laidTests := true, laidLooks := .later }
def ChaseAnswersUptoCardSaid : Prop := Claim7.holds Tryz.pinned (.plain (OpenSpec.upto chaseAnswersSpec)) chaseAnswersUptoCard

/-- THE SECOND FORM's CARD OF 'sortitionlaw19.ChaseTrue'. -/
def chaseTrueUptoCard : Claim7 := { stood := { row := chaseTrueUptoRow, standIns := [], harness := (true, "3fc9152ece7278b356a1057fe7abbaced193a426aa2e763efd33e8aec4c78d16"), looks := false }, kinds := [], alts := [], laidByText := true, laidKinds := [.data, .data, .data], laidTests := true, laidLooks := .later }
def ChaseTrueUptoCardSaid : Prop := Claim7.holds Tryz.pinned (.plain (OpenSpec.upto chaseTrueSpec)) chaseTrueUptoCard
end Rows
end Go.Proofs.YthfipbjmpeegbaaGreatDoor
