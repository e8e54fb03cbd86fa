/-
  DERIVED. GIVEN WITH THE SEED: THE CARDS: each row of YtjjcciefjcfdmaaDoorRows.lean that lists a variable, with what it lists TIED to the program's text (the seventh form; the later family's looks); each row that meets fmt, with fmt's text TOLD by the authors' own Lean function (tested against real Go, not proved from fmt's source: count such statements apart). THE CARD IS WHAT COUNTS. Prove the row's statement (the work); the ties are given (YtjjcciefjcfdmaaDoorTie.lean); close each card by the builder's one call (the guide's Derived/Test/ToyasCard.lean, 'card_holds'). Laid BY PROGRAM, IN A SANDBOX (cutbox-door.mjs). By AI agents, Wed Nov 11 2026. No macro, syntax, notation, axiom, sorry.
-/
import Derived.Test.YtjjcciefjcfdmaaDoorRows
import GoSem.ClaimSeven
namespace Go.Proofs.YtjjcciefjcfdmaaDoor
namespace Rows

/-- THE TIED CARD OF 'sortitionlaw12.PurseFair'. -/
def purseFairCard : Claim7 := { stood := { row := purseFairRow, standIns := [], harness := (true, "6c593e0393878f49538be5c7eefbd5ae183580b0fac13bbdf641384c4fae2519"), looks := false }, kinds := [], alts := [], laidByText := true, laidKinds := [.data], laidTests := true, laidLooks := .later }
def PurseFairCardSaid : Prop := Claim7.holds Tryd.pinned (.plain (OpenSpec.ofChange purseFairSpec)) purseFairCard

/-- THE TIED CARD OF 'sortitionlaw12.PurseBack'. -/
def purseBackCard : Claim7 := { stood := { row := purseBackRow, standIns := [], harness := (true, "6c593e0393878f49538be5c7eefbd5ae183580b0fac13bbdf641384c4fae2519"), looks := false }, kinds := [], alts := [], laidByText := true, laidKinds := [.data], laidTests := true, laidLooks := .later }
def PurseBackCardSaid : Prop := Claim7.holds Tryd.pinned (.plain (OpenSpec.ofChange purseBackSpec)) purseBackCard

/-- THE TIED CARD OF 'sortitionlaw12.PurseRefused'. -/
def purseRefusedCard : Claim7 := { stood := { row := purseRefusedRow, standIns := [], harness := (true, "6c593e0393878f49538be5c7eefbd5ae183580b0fac13bbdf641384c4fae2519"), looks := false }, kinds := [], alts := [], laidByText := true, laidKinds := [.data], laidTests := true, laidLooks := .later }
def PurseRefusedCardSaid : Prop := Claim7.holds Tryd.pinned (.plain (OpenSpec.ofChange purseRefusedSpec)) purseRefusedCard

/-- THE TIED CARD OF 'sortitionlaw12.PursePlays'. -/
def pursePlaysCard : Claim7 := { stood := { row := pursePlaysRow, standIns := [], harness := (true, "6c593e0393878f49538be5c7eefbd5ae183580b0fac13bbdf641384c4fae2519"), looks := false }, kinds := [], alts := [], laidByText := true, laidKinds := [.data], laidTests := true, laidLooks := .later }
def PursePlaysCardSaid : Prop := Claim7.holds Tryd.pinned (.plain (OpenSpec.ofChange pursePlaysSpec)) pursePlaysCard

/-- THE TIED CARD OF 'sortitionlaw12.PurseStays'. -/
def purseStaysCard : Claim7 := { stood := { row := purseStaysRow, standIns := [], harness := (true, "6c593e0393878f49538be5c7eefbd5ae183580b0fac13bbdf641384c4fae2519"), looks := false }, kinds := [], alts := [], laidByText := true, laidKinds := [.data], laidTests := true, laidLooks := .later }
def PurseStaysCardSaid : Prop := Claim7.holds Tryd.pinned (.plain (OpenSpec.ofChange purseStaysSpec)) purseStaysCard

/-- THE SECOND FORM's CARD OF 'sortitionlaw12.PurseFair'. -/
def purseFairUptoCard : Claim7 := { stood := { row := purseFairUptoRow, standIns := [], harness := (true, "6c593e0393878f49538be5c7eefbd5ae183580b0fac13bbdf641384c4fae2519"), looks := false }, kinds := [], alts := [], laidByText := true, laidKinds := [.data], laidTests := true, laidLooks := .later }
def PurseFairUptoCardSaid : Prop := Claim7.holds Tryd.pinned (.plain (OpenSpec.upto purseFairSpec)) purseFairUptoCard

/-- THE SECOND FORM's CARD OF 'sortitionlaw12.PurseBack'. -/
def purseBackUptoCard : Claim7 := { stood := { row := purseBackUptoRow, standIns := [], harness := (true, "6c593e0393878f49538be5c7eefbd5ae183580b0fac13bbdf641384c4fae2519"), looks := false }, kinds := [], alts := [], laidByText := true, laidKinds := [.data], laidTests := true, laidLooks := .later }
def PurseBackUptoCardSaid : Prop := Claim7.holds Tryd.pinned (.plain (OpenSpec.upto purseBackSpec)) purseBackUptoCard

/-- THE SECOND FORM's CARD OF 'sortitionlaw12.PurseRefused'. -/
def purseRefusedUptoCard : Claim7 := { stood := { row := purseRefusedUptoRow, standIns := [], harness := (true, "6c593e0393878f49538be5c7eefbd5ae183580b0fac13bbdf641384c4fae2519"), looks := false }, kinds := [], alts := [], laidByText := true, laidKinds := [.data], laidTests := true, laidLooks := .later }
def PurseRefusedUptoCardSaid : Prop := Claim7.holds Tryd.pinned (.plain (OpenSpec.upto purseRefusedSpec)) purseRefusedUptoCard

/-- THE SECOND FORM's CARD OF 'sortitionlaw12.PursePlays'. -/
def pursePlaysUptoCard : Claim7 := { stood := { row := pursePlaysUptoRow, standIns := [], harness := (true, "6c593e0393878f49538be5c7eefbd5ae183580b0fac13bbdf641384c4fae2519"), looks := false }, kinds := [], alts := [], laidByText := true, laidKinds := [.data], laidTests := true, laidLooks := .later }
def PursePlaysUptoCardSaid : Prop := Claim7.holds Tryd.pinned (.plain (OpenSpec.upto pursePlaysSpec)) pursePlaysUptoCard

/-- THE SECOND FORM's CARD OF 'sortitionlaw12.PurseStays'. -/
def purseStaysUptoCard : Claim7 := { stood := { row := purseStaysUptoRow, standIns := [], harness := (true, "6c593e0393878f49538be5c7eefbd5ae183580b0fac13bbdf641384c4fae2519"), looks := false }, kinds := [], alts := [], laidByText := true, laidKinds := [.data], laidTests := true, laidLooks := .later }
def PurseStaysUptoCardSaid : Prop := Claim7.holds Tryd.pinned (.plain (OpenSpec.upto purseStaysSpec)) purseStaysUptoCard
end Rows
end Go.Proofs.YtjjcciefjcfdmaaDoor
