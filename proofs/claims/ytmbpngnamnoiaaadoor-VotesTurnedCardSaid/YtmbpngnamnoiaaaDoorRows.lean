/-
  NARROWER THAN 'FOR EVERY INPUT', by the rows' own cells (each row's printed sentence says how): VotesTurned: laid · VotesCross: laid · VotesGrow: laid · VotesOne: laid · VotesCount: laid.
  DERIVED. THE GIVEN ROWS OF THIS SEAT. 5 by the template 'for every input the law returns true; each argument reads behind the call as it read before'; 0 by the template 'total and deterministic' (their statements: YtmbpngnamnoiaaaDoorTotals.lean).
  GIVEN WITH THE SEED: the statements are not yours to turn. If you find one false, say at which input.
  Laid BY PROGRAM, IN A SANDBOX (cutbox-rows.mjs): the forced cells as the released guide's own fill.sh prints them over the translation 77310a7a7f744346… (all of the seat's roots in one cut). By AI agents, Wed Nov 11 2026. No macro, syntax, notation, axiom, sorry.
-/
import Derived.Test.YtmbpngnamnoiaaaDoorChecked
import GoSem.Claim
import GoSem.ClaimJoined
import GoSem.ClaimMapViews
import Derived.JoinedTies
import Derived.KernelRfl
namespace Go.Proofs.YtmbpngnamnoiaaaDoor
/- THE CELL 'sum', in the pinned program and in every row, IS THE sha256 OF THE DUMP (.gsa) THAT YtmbpngnamnoiaaaDoorProg.lean LOADS. Nothing in Lean hashes anything: it is a label: what it is worth is what the hold of that sum in a sandbox is worth. -/
noncomputable def Tryd.pinned : Pinned := { name := "ytmbpngnamnoiaaadoor", sum := "77310a7a7f744346776edd0282717b2f07f1cf5d9085ede29ccb8edc86beaac2", checked := Tryd.checked }
namespace Rows
def none {H : Type} : Left H := { results := [], args := [] }

/- WHAT THE LISTED PACKAGE-LEVEL VARIABLES READ AS WHEN THE CALL BEGINS. Each datum BY PROGRAM (the guide's laid-datum.mjs) off the statement by which the dump's own 'gosem.cut.vars' lays the variable. In a bare row this is a premise. The card (YtmbpngnamnoiaaaDoorCards.lean) ties it to the program's text. -/
def laid_sortition_votes_limit {H : Type} : DataW H := .agg [.lit (.int .u64 9223372036854775808), .lit (.int .u64 0), .lit (.int .u64 0), .lit (.int .u64 0)]

/-- 'sortitionlaw15.VotesTurned': WHATEVER THE INPUT: true; the input reads as it did. -/
def votesTurnedSpec : ChangeSpec := { name := "votesTurned", fn := fun _ => fun
  | [d1, d2, d3] => { results := [.lit (.bool true)], args := [d1, d2, d3] }
  | _ => none }
def votesTurnedRow : OpenClaim := { program := "ytmbpngnamnoiaaadoor", sum := "77310a7a7f744346776edd0282717b2f07f1cf5d9085ede29ccb8edc86beaac2", func := "sortition/sortitionlaw15.VotesTurned", spec := "votesTurned", inPlace := ["math/bits.Add64"], unfollowed := true, recurses := true, named := ["sortition/votes.limit"], apart := false, laid := [("sortition/votes.limit", laid_sortition_votes_limit)] }
def VotesTurnedSaid : Prop := votesTurnedRow.holds Tryd.pinned (OpenSpec.ofChange votesTurnedSpec)

/-- ITS FALSE NEIGHBOUR: 'it returns false'. Refute it at one input. -/
def votesTurnedWrong : ChangeSpec := { name := "votesTurned", fn := fun _ => fun
  | [d1, d2, d3] => { results := [.lit (.bool false)], args := [d1, d2, d3] }
  | _ => none }
def VotesTurnedWrongFalsely : Prop := votesTurnedRow.holds Tryd.pinned (OpenSpec.ofChange votesTurnedWrong)

/-- 'sortitionlaw15.VotesCross': WHATEVER THE INPUT: true; the input reads as it did. -/
def votesCrossSpec : ChangeSpec := { name := "votesCross", fn := fun _ => fun
  | [d1, d2, d3] => { results := [.lit (.bool true)], args := [d1, d2, d3] }
  | _ => none }
def votesCrossRow : OpenClaim := { program := "ytmbpngnamnoiaaadoor", sum := "77310a7a7f744346776edd0282717b2f07f1cf5d9085ede29ccb8edc86beaac2", func := "sortition/sortitionlaw15.VotesCross", spec := "votesCross", inPlace := ["math/bits.Add64"], unfollowed := true, recurses := true, named := ["sortition/votes.limit"], apart := false, laid := [("sortition/votes.limit", laid_sortition_votes_limit)] }
def VotesCrossSaid : Prop := votesCrossRow.holds Tryd.pinned (OpenSpec.ofChange votesCrossSpec)

/-- ITS FALSE NEIGHBOUR: 'it returns false'. Refute it at one input. -/
def votesCrossWrong : ChangeSpec := { name := "votesCross", fn := fun _ => fun
  | [d1, d2, d3] => { results := [.lit (.bool false)], args := [d1, d2, d3] }
  | _ => none }
def VotesCrossWrongFalsely : Prop := votesCrossRow.holds Tryd.pinned (OpenSpec.ofChange votesCrossWrong)

/-- 'sortitionlaw15.VotesGrow': WHATEVER THE INPUT: true; the input reads as it did. -/
def votesGrowSpec : ChangeSpec := { name := "votesGrow", fn := fun _ => fun
  | [d1, d2, d3] => { results := [.lit (.bool true)], args := [d1, d2, d3] }
  | _ => none }
def votesGrowRow : OpenClaim := { program := "ytmbpngnamnoiaaadoor", sum := "77310a7a7f744346776edd0282717b2f07f1cf5d9085ede29ccb8edc86beaac2", func := "sortition/sortitionlaw15.VotesGrow", spec := "votesGrow", inPlace := ["math/bits.Add64"], unfollowed := true, recurses := true, named := ["sortition/votes.limit"], apart := false, laid := [("sortition/votes.limit", laid_sortition_votes_limit)] }
def VotesGrowSaid : Prop := votesGrowRow.holds Tryd.pinned (OpenSpec.ofChange votesGrowSpec)

/-- ITS FALSE NEIGHBOUR: 'it returns false'. Refute it at one input. -/
def votesGrowWrong : ChangeSpec := { name := "votesGrow", fn := fun _ => fun
  | [d1, d2, d3] => { results := [.lit (.bool false)], args := [d1, d2, d3] }
  | _ => none }
def VotesGrowWrongFalsely : Prop := votesGrowRow.holds Tryd.pinned (OpenSpec.ofChange votesGrowWrong)

/-- 'sortitionlaw15.VotesOne': WHATEVER THE INPUT: true; the input reads as it did. -/
def votesOneSpec : ChangeSpec := { name := "votesOne", fn := fun _ => fun
  | [d1, d2, d3, d4] => { results := [.lit (.bool true)], args := [d1, d2, d3, d4] }
  | _ => none }
def votesOneRow : OpenClaim := { program := "ytmbpngnamnoiaaadoor", sum := "77310a7a7f744346776edd0282717b2f07f1cf5d9085ede29ccb8edc86beaac2", func := "sortition/sortitionlaw15.VotesOne", spec := "votesOne", inPlace := ["math/bits.Add64"], unfollowed := true, recurses := true, named := ["sortition/votes.limit"], apart := false, laid := [("sortition/votes.limit", laid_sortition_votes_limit)] }
def VotesOneSaid : Prop := votesOneRow.holds Tryd.pinned (OpenSpec.ofChange votesOneSpec)

/-- ITS FALSE NEIGHBOUR: 'it returns false'. Refute it at one input. -/
def votesOneWrong : ChangeSpec := { name := "votesOne", fn := fun _ => fun
  | [d1, d2, d3, d4] => { results := [.lit (.bool false)], args := [d1, d2, d3, d4] }
  | _ => none }
def VotesOneWrongFalsely : Prop := votesOneRow.holds Tryd.pinned (OpenSpec.ofChange votesOneWrong)

/-- 'sortitionlaw15.VotesCount': WHATEVER THE INPUT: true; the input reads as it did. -/
def votesCountSpec : ChangeSpec := { name := "votesCount", fn := fun _ => fun
  | [d1, d2, d3, d4, d5] => { results := [.lit (.bool true)], args := [d1, d2, d3, d4, d5] }
  | _ => none }
def votesCountRow : OpenClaim := { program := "ytmbpngnamnoiaaadoor", sum := "77310a7a7f744346776edd0282717b2f07f1cf5d9085ede29ccb8edc86beaac2", func := "sortition/sortitionlaw15.VotesCount", spec := "votesCount", inPlace := ["math/bits.Add64"], unfollowed := true, recurses := true, named := ["sortition/votes.limit"], apart := false, laid := [("sortition/votes.limit", laid_sortition_votes_limit)] }
def VotesCountSaid : Prop := votesCountRow.holds Tryd.pinned (OpenSpec.ofChange votesCountSpec)

/-- ITS FALSE NEIGHBOUR: 'it returns false'. Refute it at one input. -/
def votesCountWrong : ChangeSpec := { name := "votesCount", fn := fun _ => fun
  | [d1, d2, d3, d4, d5] => { results := [.lit (.bool false)], args := [d1, d2, d3, d4, d5] }
  | _ => none }
def VotesCountWrongFalsely : Prop := votesCountRow.holds Tryd.pinned (OpenSpec.ofChange votesCountWrong)

/- THE SECOND FORM. 'bulk': how many values and letters a reading holds, each counted each time it is reached (what is shared counts as often as it is met; a slice's spare places count too). A statement '..UptoSaid' is the law's where the arguments, and the package variables that the reading takes, are together of bulk at most 1048576: NARROWER than '..Said'. Prove '..Said' where nothing that the law and all that it calls make is longer than what came in: it says more and counts as full. Else prove '..UptoSaid'. A law counts once. -/
mutual
def uptoBulk {H : Type} : DataW H → Nat
  | .lit (.string bytes) => bytes.length + 1
  | .lit _ => 1
  | .nil => 1
  | .ptr d => uptoBulk d + 1
  | .slice elems spare => uptoBulkAll elems + uptoBulkAll spare + 1
  | .agg parts => uptoBulkAll parts + 1
  | .iface _ d => uptoBulk d + 1
  | .map entries => uptoBulkEntries entries + 1
  | .held _ => 1
def uptoBulkAll {H : Type} : List (DataW H) → Nat
  | [] => 0
  | d :: r => uptoBulk d + uptoBulkAll r
def uptoBulkEntries {H : Type} : List (Lit × DataW H) → Nat
  | [] => 0
  | x :: r => uptoBulkEntry x + uptoBulkEntries r
def uptoBulkEntry {H : Type} : Lit × DataW H → Nat
  | (.string bytes, d) => bytes.length + uptoBulk d + 1
  | (_, d) => uptoBulk d + 1
 end
def uptoSmall : (H : Type) → List (DataW H) → Bool := fun _ ds => decide (uptoBulkAll ds ≤ 1048576)
def OpenSpec.upto (s : _root_.Go.ChangeSpec) : _root_.Go.OpenSpec := { _root_.Go.OpenSpec.ofChange s with cond := some uptoSmall }

/-- 'sortitionlaw15.VotesTurned', WHERE WHAT IT READS IS OF BULK AT MOST 1048576: true; the input reads as it did. -/
def votesTurnedUptoRow : OpenClaim := { program := "ytmbpngnamnoiaaadoor", sum := "77310a7a7f744346776edd0282717b2f07f1cf5d9085ede29ccb8edc86beaac2", func := "sortition/sortitionlaw15.VotesTurned", spec := "votesTurned", inPlace := ["math/bits.Add64"], unfollowed := true, recurses := true, named := ["sortition/votes.limit"], apart := false, laid := [("sortition/votes.limit", laid_sortition_votes_limit)], narrowed := true }
def VotesTurnedUptoSaid : Prop := votesTurnedUptoRow.holds Tryd.pinned (OpenSpec.upto votesTurnedSpec)

/-- 'sortitionlaw15.VotesCross', WHERE WHAT IT READS IS OF BULK AT MOST 1048576: true; the input reads as it did. -/
def votesCrossUptoRow : OpenClaim := { program := "ytmbpngnamnoiaaadoor", sum := "77310a7a7f744346776edd0282717b2f07f1cf5d9085ede29ccb8edc86beaac2", func := "sortition/sortitionlaw15.VotesCross", spec := "votesCross", inPlace := ["math/bits.Add64"], unfollowed := true, recurses := true, named := ["sortition/votes.limit"], apart := false, laid := [("sortition/votes.limit", laid_sortition_votes_limit)], narrowed := true }
def VotesCrossUptoSaid : Prop := votesCrossUptoRow.holds Tryd.pinned (OpenSpec.upto votesCrossSpec)

/-- 'sortitionlaw15.VotesGrow', WHERE WHAT IT READS IS OF BULK AT MOST 1048576: true; the input reads as it did. -/
def votesGrowUptoRow : OpenClaim := { program := "ytmbpngnamnoiaaadoor", sum := "77310a7a7f744346776edd0282717b2f07f1cf5d9085ede29ccb8edc86beaac2", func := "sortition/sortitionlaw15.VotesGrow", spec := "votesGrow", inPlace := ["math/bits.Add64"], unfollowed := true, recurses := true, named := ["sortition/votes.limit"], apart := false, laid := [("sortition/votes.limit", laid_sortition_votes_limit)], narrowed := true }
def VotesGrowUptoSaid : Prop := votesGrowUptoRow.holds Tryd.pinned (OpenSpec.upto votesGrowSpec)

/-- 'sortitionlaw15.VotesOne', WHERE WHAT IT READS IS OF BULK AT MOST 1048576: true; the input reads as it did. -/
def votesOneUptoRow : OpenClaim := { program := "ytmbpngnamnoiaaadoor", sum := "77310a7a7f744346776edd0282717b2f07f1cf5d9085ede29ccb8edc86beaac2", func := "sortition/sortitionlaw15.VotesOne", spec := "votesOne", inPlace := ["math/bits.Add64"], unfollowed := true, recurses := true, named := ["sortition/votes.limit"], apart := false, laid := [("sortition/votes.limit", laid_sortition_votes_limit)], narrowed := true }
def VotesOneUptoSaid : Prop := votesOneUptoRow.holds Tryd.pinned (OpenSpec.upto votesOneSpec)

/-- 'sortitionlaw15.VotesCount', WHERE WHAT IT READS IS OF BULK AT MOST 1048576: true; the input reads as it did. -/
def votesCountUptoRow : OpenClaim := { program := "ytmbpngnamnoiaaadoor", sum := "77310a7a7f744346776edd0282717b2f07f1cf5d9085ede29ccb8edc86beaac2", func := "sortition/sortitionlaw15.VotesCount", spec := "votesCount", inPlace := ["math/bits.Add64"], unfollowed := true, recurses := true, named := ["sortition/votes.limit"], apart := false, laid := [("sortition/votes.limit", laid_sortition_votes_limit)], narrowed := true }
def VotesCountUptoSaid : Prop := votesCountUptoRow.holds Tryd.pinned (OpenSpec.upto votesCountSpec)

end Rows
end Go.Proofs.YtmbpngnamnoiaaaDoor
