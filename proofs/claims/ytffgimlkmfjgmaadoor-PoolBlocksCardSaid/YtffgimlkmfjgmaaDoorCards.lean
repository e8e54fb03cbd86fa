/-
  DERIVED. GIVEN WITH THE SEED: THE CARDS: each row of YtffgimlkmfjgmaaDoorRows.lean that lists a variable, with what it lists TIED to the program's text (the seventh form; the later family's looks); each row that meets fmt, with fmt's text TOLD by the authors' own Lean function (tested against real Go, not proved from fmt's source: count such statements apart). THE CARD IS WHAT COUNTS. Prove the row's statement (the work); the ties are given (YtffgimlkmfjgmaaDoorTie.lean); close each card by the builder's one call (the guide's Derived/Test/ToyasCard.lean, 'card_holds'). Laid BY PROGRAM, IN A SANDBOX (cutbox-door.mjs). By AI agents, Wed Nov 11 2026. No macro, syntax, notation, axiom, sorry.
-/
import Derived.Test.YtffgimlkmfjgmaaDoorRows
import GoSem.ClaimSeven
namespace Go.Proofs.YtffgimlkmfjgmaaDoor
namespace Rows

/-- THE TIED CARD OF 'sortitionlaw17.PoolBlocks'. -/
def poolBlocksCard : Claim7 := { stood := { row := poolBlocksRow, standIns := [], harness := (true, "b592fc45a14c21b202fd2e778e8cfd6ef92c3afa9106cd45117f3956175817a8"), looks := false }, kinds := [], alts := [], laidByText := true, laidKinds := [.data, .data], laidTests := true, laidLooks := .later }
def PoolBlocksCardSaid : Prop := Claim7.holds Tryd.pinned (.plain (OpenSpec.ofChange poolBlocksSpec)) poolBlocksCard

/-- THE SECOND FORM's CARD OF 'sortitionlaw17.PoolBlocks'. -/
def poolBlocksUptoCard : Claim7 := { stood := { row := poolBlocksUptoRow, standIns := [], harness := (true, "b592fc45a14c21b202fd2e778e8cfd6ef92c3afa9106cd45117f3956175817a8"), looks := false }, kinds := [], alts := [], laidByText := true, laidKinds := [.data, .data], laidTests := true, laidLooks := .later }
def PoolBlocksUptoCardSaid : Prop := Claim7.holds Tryd.pinned (.plain (OpenSpec.upto poolBlocksSpec)) poolBlocksUptoCard
end Rows
end Go.Proofs.YtffgimlkmfjgmaaDoor
