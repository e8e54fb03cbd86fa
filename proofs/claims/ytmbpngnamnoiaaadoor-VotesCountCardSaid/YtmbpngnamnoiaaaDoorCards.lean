/-
  DERIVED. GIVEN WITH THE SEED: THE CARDS: each row of YtmbpngnamnoiaaaDoorRows.lean that lists a variable, with what it lists TIED to the program's text (the seventh form; the later family's looks); each row that meets fmt, with fmt's text TOLD by the authors' own Lean function (tested against real Go, not proved from fmt's source: count such statements apart). THE CARD IS WHAT COUNTS. Prove the row's statement (the work); the ties are given (YtmbpngnamnoiaaaDoorTie.lean); close each card by the builder's one call (the guide's Derived/Test/ToyasCard.lean, 'card_holds'). Laid BY PROGRAM, IN A SANDBOX (cutbox-door.mjs). By AI agents, Wed Nov 11 2026. No macro, syntax, notation, axiom, sorry.
-/
import Derived.Test.YtmbpngnamnoiaaaDoorRows
import GoSem.ClaimSeven
namespace Go.Proofs.YtmbpngnamnoiaaaDoor
namespace Rows

/-- THE TIED CARD OF 'sortitionlaw15.VotesTurned'. -/
def votesTurnedCard : Claim7 := { stood := { row := votesTurnedRow, standIns := [], harness := (true, "010ecab5b4fb0c4f3ea171c28670b33a45b8a7a4b920e54486b6b8511abdc3c4"), looks := false }, kinds := [], alts := [], laidByText := true, laidKinds := [.data], laidTests := true, laidLooks := .later }
def VotesTurnedCardSaid : Prop := Claim7.holds Tryd.pinned (.plain (OpenSpec.ofChange votesTurnedSpec)) votesTurnedCard

/-- THE TIED CARD OF 'sortitionlaw15.VotesCross'. -/
def votesCrossCard : Claim7 := { stood := { row := votesCrossRow, standIns := [], harness := (true, "010ecab5b4fb0c4f3ea171c28670b33a45b8a7a4b920e54486b6b8511abdc3c4"), looks := false }, kinds := [], alts := [], laidByText := true, laidKinds := [.data], laidTests := true, laidLooks := .later }
def VotesCrossCardSaid : Prop := Claim7.holds Tryd.pinned (.plain (OpenSpec.ofChange votesCrossSpec)) votesCrossCard

/-- THE TIED CARD OF 'sortitionlaw15.VotesGrow'. -/
def votesGrowCard : Claim7 := { stood := { row := votesGrowRow, standIns := [], harness := (true, "010ecab5b4fb0c4f3ea171c28670b33a45b8a7a4b920e54486b6b8511abdc3c4"), looks := false }, kinds := [], alts := [], laidByText := true, laidKinds := [.data], laidTests := true, laidLooks := .later }
def VotesGrowCardSaid : Prop := Claim7.holds Tryd.pinned (.plain (OpenSpec.ofChange votesGrowSpec)) votesGrowCard

/-- THE TIED CARD OF 'sortitionlaw15.VotesOne'. -/
def votesOneCard : Claim7 := { stood := { row := votesOneRow, standIns := [], harness := (true, "010ecab5b4fb0c4f3ea171c28670b33a45b8a7a4b920e54486b6b8511abdc3c4"), looks := false }, kinds := [], alts := [], laidByText := true, laidKinds := [.data], laidTests := true, laidLooks := .later }
def VotesOneCardSaid : Prop := Claim7.holds Tryd.pinned (.plain (OpenSpec.ofChange votesOneSpec)) votesOneCard

/-- THE TIED CARD OF 'sortitionlaw15.VotesCount'. -/
def votesCountCard : Claim7 := { stood := { row := votesCountRow, standIns := [], harness := (true, "010ecab5b4fb0c4f3ea171c28670b33a45b8a7a4b920e54486b6b8511abdc3c4"), looks := false }, kinds := [], alts := [], laidByText := true, laidKinds := [.data], laidTests := true, laidLooks := .later }
def VotesCountCardSaid : Prop := Claim7.holds Tryd.pinned (.plain (OpenSpec.ofChange votesCountSpec)) votesCountCard

/-- THE SECOND FORM's CARD OF 'sortitionlaw15.VotesTurned'. -/
def votesTurnedUptoCard : Claim7 := { stood := { row := votesTurnedUptoRow, standIns := [], harness := (true, "010ecab5b4fb0c4f3ea171c28670b33a45b8a7a4b920e54486b6b8511abdc3c4"), looks := false }, kinds := [], alts := [], laidByText := true, laidKinds := [.data], laidTests := true, laidLooks := .later }
def VotesTurnedUptoCardSaid : Prop := Claim7.holds Tryd.pinned (.plain (OpenSpec.upto votesTurnedSpec)) votesTurnedUptoCard

/-- THE SECOND FORM's CARD OF 'sortitionlaw15.VotesCross'. -/
def votesCrossUptoCard : Claim7 := { stood := { row := votesCrossUptoRow, standIns := [], harness := (true, "010ecab5b4fb0c4f3ea171c28670b33a45b8a7a4b920e54486b6b8511abdc3c4"), looks := false }, kinds := [], alts := [], laidByText := true, laidKinds := [.data], laidTests := true, laidLooks := .later }
def VotesCrossUptoCardSaid : Prop := Claim7.holds Tryd.pinned (.plain (OpenSpec.upto votesCrossSpec)) votesCrossUptoCard

/-- THE SECOND FORM's CARD OF 'sortitionlaw15.VotesGrow'. -/
def votesGrowUptoCard : Claim7 := { stood := { row := votesGrowUptoRow, standIns := [], harness := (true, "010ecab5b4fb0c4f3ea171c28670b33a45b8a7a4b920e54486b6b8511abdc3c4"), looks := false }, kinds := [], alts := [], laidByText := true, laidKinds := [.data], laidTests := true, laidLooks := .later }
def VotesGrowUptoCardSaid : Prop := Claim7.holds Tryd.pinned (.plain (OpenSpec.upto votesGrowSpec)) votesGrowUptoCard

/-- THE SECOND FORM's CARD OF 'sortitionlaw15.VotesOne'. -/
def votesOneUptoCard : Claim7 := { stood := { row := votesOneUptoRow, standIns := [], harness := (true, "010ecab5b4fb0c4f3ea171c28670b33a45b8a7a4b920e54486b6b8511abdc3c4"), looks := false }, kinds := [], alts := [], laidByText := true, laidKinds := [.data], laidTests := true, laidLooks := .later }
def VotesOneUptoCardSaid : Prop := Claim7.holds Tryd.pinned (.plain (OpenSpec.upto votesOneSpec)) votesOneUptoCard

/-- THE SECOND FORM's CARD OF 'sortitionlaw15.VotesCount'. -/
def votesCountUptoCard : Claim7 := { stood := { row := votesCountUptoRow, standIns := [], harness := (true, "010ecab5b4fb0c4f3ea171c28670b33a45b8a7a4b920e54486b6b8511abdc3c4"), looks := false }, kinds := [], alts := [], laidByText := true, laidKinds := [.data], laidTests := true, laidLooks := .later }
def VotesCountUptoCardSaid : Prop := Claim7.holds Tryd.pinned (.plain (OpenSpec.upto votesCountSpec)) votesCountUptoCard
end Rows
end Go.Proofs.YtmbpngnamnoiaaaDoor
