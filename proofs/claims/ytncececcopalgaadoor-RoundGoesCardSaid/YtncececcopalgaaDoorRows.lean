/-
  NARROWER THAN 'FOR EVERY INPUT', by the rows' own cells (each row's printed sentence says how): RoundOnce: laid · RoundHolds: laid · RoundAgrees: laid · RoundGoes: laid · RoundQuiet: laid.
  DERIVED. THE GIVEN ROWS OF THIS SEAT. 5 by the template 'for every input the law returns true; each argument reads behind the call as it read before'; 0 by the template 'total and deterministic' (their statements: YtncececcopalgaaDoorTotals.lean).
  GIVEN WITH THE SEED: the statements are not yours to turn. If you find one false, say at which input.
  Laid BY PROGRAM, IN A SANDBOX (cutbox-rows.mjs): the forced cells as the released guide's own fill.sh prints them over the translation 371674cb3faa2cc5… (all of the seat's roots in one cut). By AI agents, Wed Nov 11 2026. No macro, syntax, notation, axiom, sorry.
-/
import Derived.Test.YtncececcopalgaaDoorChecked
import GoSem.Claim
import GoSem.ClaimJoined
import GoSem.ClaimMapViews
import Derived.JoinedTies
import Derived.KernelRfl
namespace Go.Proofs.YtncececcopalgaaDoor
/- THE CELL 'sum', in the pinned program and in every row, IS THE sha256 OF THE DUMP (.gsa) THAT YtncececcopalgaaDoorProg.lean LOADS. Nothing in Lean hashes anything: it is a label: what it is worth is what the hold of that sum in a sandbox is worth. -/
noncomputable def Tryd.pinned : Pinned := { name := "ytncececcopalgaadoor", sum := "371674cb3faa2cc5350f1a32c51ab8a3228ec73e65e5797d4da562a86feeb612", checked := Tryd.checked }
namespace Rows
def none {H : Type} : Left H := { results := [], args := [] }

/- WHAT THE LISTED PACKAGE-LEVEL VARIABLES READ AS WHEN THE CALL BEGINS. Each datum BY PROGRAM (the guide's laid-datum.mjs) off the statement by which the dump's own 'gosem.cut.vars' lays the variable. In a bare row this is a premise. The card (YtncececcopalgaaDoorCards.lean) ties it to the program's text. -/
def laid_sortition_votes_limit {H : Type} : DataW H := .agg [.lit (.int .u64 9223372036854775808), .lit (.int .u64 0), .lit (.int .u64 0), .lit (.int .u64 0)]

/-- 'sortitionlaw16.RoundOnce': WHATEVER THE INPUT: true; the input reads as it did. -/
def roundOnceSpec : ChangeSpec := { name := "roundOnce", fn := fun _ => fun
  | [d1, d2, d3, d4, d5] => { results := [.lit (.bool true)], args := [d1, d2, d3, d4, d5] }
  | _ => none }
def roundOnceRow : OpenClaim := { program := "ytncececcopalgaadoor", sum := "371674cb3faa2cc5350f1a32c51ab8a3228ec73e65e5797d4da562a86feeb612", func := "sortition/sortitionlaw16.RoundOnce", spec := "roundOnce", inPlace := ["math/bits.Add64"], unfollowed := true, recurses := true, named := ["sortition/votes.limit"], plainKeys := false, apart := false, laid := [("sortition/votes.limit", laid_sortition_votes_limit)] }
def RoundOnceSaid : Prop := roundOnceRow.holds Tryd.pinned (OpenSpec.ofChange roundOnceSpec)

/-- ITS FALSE NEIGHBOUR: 'it returns false'. Refute it at one input. -/
def roundOnceWrong : ChangeSpec := { name := "roundOnce", fn := fun _ => fun
  | [d1, d2, d3, d4, d5] => { results := [.lit (.bool false)], args := [d1, d2, d3, d4, d5] }
  | _ => none }
def RoundOnceWrongFalsely : Prop := roundOnceRow.holds Tryd.pinned (OpenSpec.ofChange roundOnceWrong)

/-- 'sortitionlaw16.RoundHolds': WHATEVER THE INPUT: true; the input reads as it did. -/
def roundHoldsSpec : ChangeSpec := { name := "roundHolds", fn := fun _ => fun
  | [d1, d2, d3, d4, d5] => { results := [.lit (.bool true)], args := [d1, d2, d3, d4, d5] }
  | _ => none }
def roundHoldsRow : OpenClaim := { program := "ytncececcopalgaadoor", sum := "371674cb3faa2cc5350f1a32c51ab8a3228ec73e65e5797d4da562a86feeb612", func := "sortition/sortitionlaw16.RoundHolds", spec := "roundHolds", inPlace := ["math/bits.Add64"], unfollowed := true, recurses := true, named := ["sortition/votes.limit"], plainKeys := false, apart := false, laid := [("sortition/votes.limit", laid_sortition_votes_limit)] }
def RoundHoldsSaid : Prop := roundHoldsRow.holds Tryd.pinned (OpenSpec.ofChange roundHoldsSpec)

/-- ITS FALSE NEIGHBOUR: 'it returns false'. Refute it at one input. -/
def roundHoldsWrong : ChangeSpec := { name := "roundHolds", fn := fun _ => fun
  | [d1, d2, d3, d4, d5] => { results := [.lit (.bool false)], args := [d1, d2, d3, d4, d5] }
  | _ => none }
def RoundHoldsWrongFalsely : Prop := roundHoldsRow.holds Tryd.pinned (OpenSpec.ofChange roundHoldsWrong)

/-- 'sortitionlaw16.RoundAgrees': WHATEVER THE INPUT: true; the input reads as it did. -/
def roundAgreesSpec : ChangeSpec := { name := "roundAgrees", fn := fun _ => fun
  | [d1, d2, d3, d4] => { results := [.lit (.bool true)], args := [d1, d2, d3, d4] }
  | _ => none }
def roundAgreesRow : OpenClaim := { program := "ytncececcopalgaadoor", sum := "371674cb3faa2cc5350f1a32c51ab8a3228ec73e65e5797d4da562a86feeb612", func := "sortition/sortitionlaw16.RoundAgrees", spec := "roundAgrees", inPlace := ["math/bits.Add64"], unfollowed := true, recurses := true, named := ["sortition/votes.limit"], plainKeys := false, apart := false, laid := [("sortition/votes.limit", laid_sortition_votes_limit)] }
def RoundAgreesSaid : Prop := roundAgreesRow.holds Tryd.pinned (OpenSpec.ofChange roundAgreesSpec)

/-- ITS FALSE NEIGHBOUR: 'it returns false'. Refute it at one input. -/
def roundAgreesWrong : ChangeSpec := { name := "roundAgrees", fn := fun _ => fun
  | [d1, d2, d3, d4] => { results := [.lit (.bool false)], args := [d1, d2, d3, d4] }
  | _ => none }
def RoundAgreesWrongFalsely : Prop := roundAgreesRow.holds Tryd.pinned (OpenSpec.ofChange roundAgreesWrong)

/-- 'sortitionlaw16.RoundGoes': WHATEVER THE INPUT: true; the input reads as it did. -/
def roundGoesSpec : ChangeSpec := { name := "roundGoes", fn := fun _ => fun
  | [d1, d2] => { results := [.lit (.bool true)], args := [d1, d2] }
  | _ => none }
def roundGoesRow : OpenClaim := { program := "ytncececcopalgaadoor", sum := "371674cb3faa2cc5350f1a32c51ab8a3228ec73e65e5797d4da562a86feeb612", func := "sortition/sortitionlaw16.RoundGoes", spec := "roundGoes", inPlace := ["math/bits.Add64"], unfollowed := true, recurses := true, named := ["sortition/votes.limit"], plainKeys := false, apart := false, laid := [("sortition/votes.limit", laid_sortition_votes_limit)] }
def RoundGoesSaid : Prop := roundGoesRow.holds Tryd.pinned (OpenSpec.ofChange roundGoesSpec)

/-- ITS FALSE NEIGHBOUR: 'it returns false'. Refute it at one input. -/
def roundGoesWrong : ChangeSpec := { name := "roundGoes", fn := fun _ => fun
  | [d1, d2] => { results := [.lit (.bool false)], args := [d1, d2] }
  | _ => none }
def RoundGoesWrongFalsely : Prop := roundGoesRow.holds Tryd.pinned (OpenSpec.ofChange roundGoesWrong)

/-- 'sortitionlaw16.RoundQuiet': WHATEVER THE INPUT: true; the input reads as it did. -/
def roundQuietSpec : ChangeSpec := { name := "roundQuiet", fn := fun _ => fun
  | [d1, d2, d3, d4, d5] => { results := [.lit (.bool true)], args := [d1, d2, d3, d4, d5] }
  | _ => none }
def roundQuietRow : OpenClaim := { program := "ytncececcopalgaadoor", sum := "371674cb3faa2cc5350f1a32c51ab8a3228ec73e65e5797d4da562a86feeb612", func := "sortition/sortitionlaw16.RoundQuiet", spec := "roundQuiet", inPlace := ["math/bits.Add64"], unfollowed := true, recurses := true, named := ["sortition/votes.limit"], plainKeys := false, apart := false, laid := [("sortition/votes.limit", laid_sortition_votes_limit)] }
def RoundQuietSaid : Prop := roundQuietRow.holds Tryd.pinned (OpenSpec.ofChange roundQuietSpec)

/-- ITS FALSE NEIGHBOUR: 'it returns false'. Refute it at one input. -/
def roundQuietWrong : ChangeSpec := { name := "roundQuiet", fn := fun _ => fun
  | [d1, d2, d3, d4, d5] => { results := [.lit (.bool false)], args := [d1, d2, d3, d4, d5] }
  | _ => none }
def RoundQuietWrongFalsely : Prop := roundQuietRow.holds Tryd.pinned (OpenSpec.ofChange roundQuietWrong)

/- THE SECOND FORM. 'bulk': how many values and letters a reading holds, each counted each time it is reached (what is shared counts as often as it is met; a slice's spare places count too). A statement '..UptoSaid' is the law's where the arguments, and the package variables that the reading takes, are together of bulk at most 1048576: NARROWER than '..Said'. Prove '..Said' where nothing that the law and all that it calls make is longer than what came in: it says more and counts as full. Else prove '..UptoSaid'. A law counts once. -/
mutual
def uptoBulk {H : Type} : DataW H → Nat
  | .lit (.string bytes) => bytes.length + 1
  | .lit _ => 1
  | .nil => 1
  | .ptr d => uptoBulk d + 1
  | .slice elems spare => uptoBulkAll elems + uptoBulkAll spare + 1
  | .agg parts => uptoBulkAll parts + 1
  | .iface _ d => uptoBulk d + 1
  | .map entries => uptoBulkEntries entries + 1
  | .held _ => 1
def uptoBulkAll {H : Type} : List (DataW H) → Nat
  | [] => 0
  | d :: r => uptoBulk d + uptoBulkAll r
def uptoBulkEntries {H : Type} : List (Lit × DataW H) → Nat
  | [] => 0
  | x :: r => uptoBulkEntry x + uptoBulkEntries r
def uptoBulkEntry {H : Type} : Lit × DataW H → Nat
  | (.string bytes, d) => bytes.length + uptoBulk d + 1
  | (_, d) => uptoBulk d + 1
 end
def uptoSmall : (H : Type) → List (DataW H) → Bool := fun _ ds => decide (uptoBulkAll ds ≤ 1048576)
def OpenSpec.upto (s : _root_.Go.ChangeSpec) : _root_.Go.OpenSpec := { _root_.Go.OpenSpec.ofChange s with cond := some uptoSmall }

/-- 'sortitionlaw16.RoundOnce', WHERE WHAT IT READS IS OF BULK AT MOST 1048576: true; the input reads as it did. -/
def roundOnceUptoRow : OpenClaim := { program := "ytncececcopalgaadoor", sum := "371674cb3faa2cc5350f1a32c51ab8a3228ec73e65e5797d4da562a86feeb612", func := "sortition/sortitionlaw16.RoundOnce", spec := "roundOnce", inPlace := ["math/bits.Add64"], unfollowed := true, recurses := true, named := ["sortition/votes.limit"], plainKeys := false, apart := false, laid := [("sortition/votes.limit", laid_sortition_votes_limit)], narrowed := true }
def RoundOnceUptoSaid : Prop := roundOnceUptoRow.holds Tryd.pinned (OpenSpec.upto roundOnceSpec)

/-- 'sortitionlaw16.RoundHolds', WHERE WHAT IT READS IS OF BULK AT MOST 1048576: true; the input reads as it did. -/
def roundHoldsUptoRow : OpenClaim := { program := "ytncececcopalgaadoor", sum := "371674cb3faa2cc5350f1a32c51ab8a3228ec73e65e5797d4da562a86feeb612", func := "sortition/sortitionlaw16.RoundHolds", spec := "roundHolds", inPlace := ["math/bits.Add64"], unfollowed := true, recurses := true, named := ["sortition/votes.limit"], plainKeys := false, apart := false, laid := [("sortition/votes.limit", laid_sortition_votes_limit)], narrowed := true }
def RoundHoldsUptoSaid : Prop := roundHoldsUptoRow.holds Tryd.pinned (OpenSpec.upto roundHoldsSpec)

/-- 'sortitionlaw16.RoundAgrees', WHERE WHAT IT READS IS OF BULK AT MOST 1048576: true; the input reads as it did. -/
def roundAgreesUptoRow : OpenClaim := { program := "ytncececcopalgaadoor", sum := "371674cb3faa2cc5350f1a32c51ab8a3228ec73e65e5797d4da562a86feeb612", func := "sortition/sortitionlaw16.RoundAgrees", spec := "roundAgrees", inPlace := ["math/bits.Add64"], unfollowed := true, recurses := true, named := ["sortition/votes.limit"], plainKeys := false, apart := false, laid := [("sortition/votes.limit", laid_sortition_votes_limit)], narrowed := true }
def RoundAgreesUptoSaid : Prop := roundAgreesUptoRow.holds Tryd.pinned (OpenSpec.upto roundAgreesSpec)

/-- 'sortitionlaw16.RoundGoes', WHERE WHAT IT READS IS OF BULK AT MOST 1048576: true; the input reads as it did. -/
def roundGoesUptoRow : OpenClaim := { program := "ytncececcopalgaadoor", sum := "371674cb3faa2cc5350f1a32c51ab8a3228ec73e65e5797d4da562a86feeb612", func := "sortition/sortitionlaw16.RoundGoes", spec := "roundGoes", inPlace := ["math/bits.Add64"], unfollowed := true, recurses := true, named := ["sortition/votes.limit"], plainKeys := false, apart := false, laid := [("sortition/votes.limit", laid_sortition_votes_limit)], narrowed := true }
def RoundGoesUptoSaid : Prop := roundGoesUptoRow.holds Tryd.pinned (OpenSpec.upto roundGoesSpec)

/-- 'sortitionlaw16.RoundQuiet', WHERE WHAT IT READS IS OF BULK AT MOST 1048576: true; the input reads as it did. -/
def roundQuietUptoRow : OpenClaim := { program := "ytncececcopalgaadoor", sum := "371674cb3faa2cc5350f1a32c51ab8a3228ec73e65e5797d4da562a86feeb612", func := "sortition/sortitionlaw16.RoundQuiet", spec := "roundQuiet", inPlace := ["math/bits.Add64"], unfollowed := true, recurses := true, named := ["sortition/votes.limit"], plainKeys := false, apart := false, laid := [("sortition/votes.limit", laid_sortition_votes_limit)], narrowed := true }
def RoundQuietUptoSaid : Prop := roundQuietUptoRow.holds Tryd.pinned (OpenSpec.upto roundQuietSpec)

end Rows
end Go.Proofs.YtncececcopalgaaDoor
