/-
  DERIVED. GIVEN WITH THE SEED: THE CARDS: each row of YthnndggnpbddkaaDoorRows.lean that lists a variable, with what it lists TIED to the program's text (the seventh form; the later family's looks); each row that meets fmt, with fmt's text TOLD by the authors' own Lean function (tested against real Go, not proved from fmt's source: count such statements apart). THE CARD IS WHAT COUNTS. Prove the row's statement (the work); the ties are given (YthnndggnpbddkaaDoorTie.lean); close each card by the builder's one call (the guide's Derived/Test/ToyasCard.lean, 'card_holds'). Laid BY PROGRAM, IN A SANDBOX (cutbox-door.mjs). By AI agents, Wed Nov 11 2026. No macro, syntax, notation, axiom, sorry.
-/
import Derived.Test.YthnndggnpbddkaaDoorRows
import GoSem.ClaimSeven
namespace Go.Proofs.YthnndggnpbddkaaDoor
namespace Rows

/-- THE TIED CARD OF 'sortitionlaw06.ShaGoes'. -/
def shaGoesCard : Claim7 := { stood := { row := shaGoesRow, standIns := [], harness := (true, "9b360448ff993287c1e8702e92e79c4c113f0cce56acf50d416b933da13391c4"), looks := false }, kinds := [], alts := [], laidByText := true, laidKinds := [.data, .data], laidTests := true, laidLooks := .later }
def ShaGoesCardSaid : Prop := Claim7.holds Tryd.pinned (.plain (OpenSpec.ofChange shaGoesSpec)) shaGoesCard

/-- THE TIED CARD OF 'sortitionlaw06.ShaNothing'. -/
def shaNothingCard : Claim7 := { stood := { row := shaNothingRow, standIns := [], harness := (true, "9b360448ff993287c1e8702e92e79c4c113f0cce56acf50d416b933da13391c4"), looks := false }, kinds := [], alts := [], laidByText := true, laidKinds := [.data, .data], laidTests := true, laidLooks := .later }
def ShaNothingCardSaid : Prop := Claim7.holds Tryd.pinned (.plain (OpenSpec.ofChange shaNothingSpec)) shaNothingCard

/-- THE TIED CARD OF 'sortitionlaw06.ShaOf'. -/
def shaOfCard : Claim7 := { stood := { row := shaOfRow, standIns := [], harness := (true, "9b360448ff993287c1e8702e92e79c4c113f0cce56acf50d416b933da13391c4"), looks := false }, kinds := [], alts := [], laidByText := true, laidKinds := [.data, .data], laidTests := true, laidLooks := .later }
def ShaOfCardSaid : Prop := Claim7.holds Tryd.pinned (.plain (OpenSpec.ofChange shaOfSpec)) shaOfCard

/-- THE TIED CARD OF 'sortitionlaw06.ShaPieces'. -/
def shaPiecesCard : Claim7 := { stood := { row := shaPiecesRow, standIns := [], harness := (true, "9b360448ff993287c1e8702e92e79c4c113f0cce56acf50d416b933da13391c4"), looks := false }, kinds := [], alts := [], laidByText := true, laidKinds := [.data, .data], laidTests := true, laidLooks := .later }
def ShaPiecesCardSaid : Prop := Claim7.holds Tryd.pinned (.plain (OpenSpec.ofChange shaPiecesSpec)) shaPiecesCard

/-- THE SECOND FORM's CARD OF 'sortitionlaw06.ShaGoes'. -/
def shaGoesUptoCard : Claim7 := { stood := { row := shaGoesUptoRow, standIns := [], harness := (true, "9b360448ff993287c1e8702e92e79c4c113f0cce56acf50d416b933da13391c4"), looks := false }, kinds := [], alts := [], laidByText := true, laidKinds := [.data, .data], laidTests := true, laidLooks := .later }
def ShaGoesUptoCardSaid : Prop := Claim7.holds Tryd.pinned (.plain (OpenSpec.upto shaGoesSpec)) shaGoesUptoCard

/-- THE SECOND FORM's CARD OF 'sortitionlaw06.ShaNothing'. -/
def shaNothingUptoCard : Claim7 := { stood := { row := shaNothingUptoRow, standIns := [], harness := (true, "9b360448ff993287c1e8702e92e79c4c113f0cce56acf50d416b933da13391c4"), looks := false }, kinds := [], alts := [], laidByText := true, laidKinds := [.data, .data], laidTests := true, laidLooks := .later }
def ShaNothingUptoCardSaid : Prop := Claim7.holds Tryd.pinned (.plain (OpenSpec.upto shaNothingSpec)) shaNothingUptoCard

/-- THE SECOND FORM's CARD OF 'sortitionlaw06.ShaOf'. -/
def shaOfUptoCard : Claim7 := { stood := { row := shaOfUptoRow, standIns := [], harness := (true, "9b360448ff993287c1e8702e92e79c4c113f0cce56acf50d416b933da13391c4"), looks := false }, kinds := [], alts := [], laidByText := true, laidKinds := [.data, .data], laidTests := true, laidLooks := .later }
def ShaOfUptoCardSaid : Prop := Claim7.holds Tryd.pinned (.plain (OpenSpec.upto shaOfSpec)) shaOfUptoCard

/-- THE SECOND FORM's CARD OF 'sortitionlaw06.ShaPieces'. -/
def shaPiecesUptoCard : Claim7 := { stood := { row := shaPiecesUptoRow, standIns := [], harness := (true, "9b360448ff993287c1e8702e92e79c4c113f0cce56acf50d416b933da13391c4"), looks := false }, kinds := [], alts := [], laidByText := true, laidKinds := [.data, .data], laidTests := true, laidLooks := .later }
def ShaPiecesUptoCardSaid : Prop := Claim7.holds Tryd.pinned (.plain (OpenSpec.upto shaPiecesSpec)) shaPiecesUptoCard
end Rows
end Go.Proofs.YthnndggnpbddkaaDoor
