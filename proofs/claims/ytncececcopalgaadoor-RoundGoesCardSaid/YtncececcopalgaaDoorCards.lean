/-
  DERIVED. GIVEN WITH THE SEED: THE CARDS: each row of YtncececcopalgaaDoorRows.lean that lists a variable, with what it lists TIED to the program's text (the seventh form; the later family's looks); each row that meets fmt, with fmt's text TOLD by the authors' own Lean function (tested against real Go, not proved from fmt's source: count such statements apart). THE CARD IS WHAT COUNTS. Prove the row's statement (the work); the ties are given (YtncececcopalgaaDoorTie.lean); close each card by the builder's one call (the guide's Derived/Test/ToyasCard.lean, 'card_holds'). Laid BY PROGRAM, IN A SANDBOX (cutbox-door.mjs). By AI agents, Wed Nov 11 2026. No macro, syntax, notation, axiom, sorry.
-/
import Derived.Test.YtncececcopalgaaDoorRows
import GoSem.ClaimSeven
namespace Go.Proofs.YtncececcopalgaaDoor
namespace Rows

/-- THE TIED CARD OF 'sortitionlaw16.RoundOnce'. -/
def roundOnceCard : Claim7 := { stood := { row := roundOnceRow, standIns := [], harness := (true, "1549e97373f36b2cb90a59e52d2e6f5eedcd0735986243813e0e9cece71e74c5"), looks := false }, kinds := [], alts := [], laidByText := true, laidKinds := [.data], laidTests := true, laidLooks := .later }
def RoundOnceCardSaid : Prop := Claim7.holds Tryd.pinned (.plain (OpenSpec.ofChange roundOnceSpec)) roundOnceCard

/-- THE TIED CARD OF 'sortitionlaw16.RoundHolds'. -/
def roundHoldsCard : Claim7 := { stood := { row := roundHoldsRow, standIns := [], harness := (true, "1549e97373f36b2cb90a59e52d2e6f5eedcd0735986243813e0e9cece71e74c5"), looks := false }, kinds := [], alts := [], laidByText := true, laidKinds := [.data], laidTests := true, laidLooks := .later }
def RoundHoldsCardSaid : Prop := Claim7.holds Tryd.pinned (.plain (OpenSpec.ofChange roundHoldsSpec)) roundHoldsCard

/-- THE TIED CARD OF 'sortitionlaw16.RoundAgrees'. -/
def roundAgreesCard : Claim7 := { stood := { row := roundAgreesRow, standIns := [], harness := (true, "1549e97373f36b2cb90a59e52d2e6f5eedcd0735986243813e0e9cece71e74c5"), looks := false }, kinds := [], alts := [], laidByText := true, laidKinds := [.data], laidTests := true, laidLooks := .later }
def RoundAgreesCardSaid : Prop := Claim7.holds Tryd.pinned (.plain (OpenSpec.ofChange roundAgreesSpec)) roundAgreesCard

/-- THE TIED CARD OF 'sortitionlaw16.RoundGoes'. -/
def roundGoesCard : Claim7 := { stood := { row := roundGoesRow, standIns := [], harness := (true, "1549e97373f36b2cb90a59e52d2e6f5eedcd0735986243813e0e9cece71e74c5"), looks := false }, kinds := [], alts := [], laidByText := true, laidKinds := [.data], laidTests := true, laidLooks := .later }
def RoundGoesCardSaid : Prop := Claim7.holds Tryd.pinned (.plain (OpenSpec.ofChange roundGoesSpec)) roundGoesCard

/-- THE TIED CARD OF 'sortitionlaw16.RoundQuiet'. -/
def roundQuietCard : Claim7 := { stood := { row := roundQuietRow, standIns := [], harness := (true, "1549e97373f36b2cb90a59e52d2e6f5eedcd0735986243813e0e9cece71e74c5"), looks := false }, kinds := [], alts := [], laidByText := true, laidKinds := [.data], laidTests := true, laidLooks := .later }
def RoundQuietCardSaid : Prop := Claim7.holds Tryd.pinned (.plain (OpenSpec.ofChange roundQuietSpec)) roundQuietCard

/-- THE SECOND FORM's CARD OF 'sortitionlaw16.RoundOnce'. -/
def roundOnceUptoCard : Claim7 := { stood := { row := roundOnceUptoRow, standIns := [], harness := (true, "1549e97373f36b2cb90a59e52d2e6f5eedcd0735986243813e0e9cece71e74c5"), looks := false }, kinds := [], alts := [], laidByText := true, laidKinds := [.data], laidTests := true, laidLooks := .later }
def RoundOnceUptoCardSaid : Prop := Claim7.holds Tryd.pinned (.plain (OpenSpec.upto roundOnceSpec)) roundOnceUptoCard

/-- THE SECOND FORM's CARD OF 'sortitionlaw16.RoundHolds'. -/
def roundHoldsUptoCard : Claim7 := { stood := { row := roundHoldsUptoRow, standIns := [], harness := (true, "1549e97373f36b2cb90a59e52d2e6f5eedcd0735986243813e0e9cece71e74c5"), looks := false }, kinds := [], alts := [], laidByText := true, laidKinds := [.data], laidTests := true, laidLooks := .later }
def RoundHoldsUptoCardSaid : Prop := Claim7.holds Tryd.pinned (.plain (OpenSpec.upto roundHoldsSpec)) roundHoldsUptoCard

/-- THE SECOND FORM's CARD OF 'sortitionlaw16.RoundAgrees'. -/
def roundAgreesUptoCard : Claim7 := { stood := { row := roundAgreesUptoRow, standIns := [], harness := (true, "1549e97373f36b2cb90a59e52d2e6f5eedcd0735986243813e0e9cece71e74c5"), looks := false }, kinds := [], alts := [], laidByText := true, laidKinds := [.data], laidTests := true, laidLooks := .later }
def RoundAgreesUptoCardSaid : Prop := Claim7.holds Tryd.pinned (.plain (OpenSpec.upto roundAgreesSpec)) roundAgreesUptoCard

/-- THE SECOND FORM's CARD OF 'sortitionlaw16.RoundGoes'. -/
def roundGoesUptoCard : Claim7 := { stood := { row := roundGoesUptoRow, standIns := [], harness := (true, "1549e97373f36b2cb90a59e52d2e6f5eedcd0735986243813e0e9cece71e74c5"), looks := false }, kinds := [], alts := [], laidByText := true, laidKinds := [.data], laidTests := true, laidLooks := .later }
def RoundGoesUptoCardSaid : Prop := Claim7.holds Tryd.pinned (.plain (OpenSpec.upto roundGoesSpec)) roundGoesUptoCard

/-- THE SECOND FORM's CARD OF 'sortitionlaw16.RoundQuiet'. -/
def roundQuietUptoCard : Claim7 := { stood := { row := roundQuietUptoRow, standIns := [], harness := (true, "1549e97373f36b2cb90a59e52d2e6f5eedcd0735986243813e0e9cece71e74c5"), looks := false }, kinds := [], alts := [], laidByText := true, laidKinds := [.data], laidTests := true, laidLooks := .later }
def RoundQuietUptoCardSaid : Prop := Claim7.holds Tryd.pinned (.plain (OpenSpec.upto roundQuietSpec)) roundQuietUptoCard
end Rows
end Go.Proofs.YtncececcopalgaaDoor
