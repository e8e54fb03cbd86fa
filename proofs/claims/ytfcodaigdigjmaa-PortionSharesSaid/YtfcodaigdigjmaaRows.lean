/-
  No cell of these rows narrows 'for every input' (looked for: loops, veiled, ifaces, maps, wideKeys, modest, calm, conditions, laid).
  DERIVED. THE GIVEN ROWS OF THIS SEAT. 5 by the template 'for every input the law returns true; each argument reads behind the call as it read before'; 0 by the template 'total and deterministic' (their statements: YtfcodaigdigjmaaTotals.lean).
  GIVEN WITH THE SEED: the statements are not yours to turn. If you find one false, say at which input.
  Laid BY PROGRAM, IN A SANDBOX (cutbox-rows.mjs): the forced cells as the released guide's own fill.sh prints them over the translation 94443af5d1008c49… (all of the seat's roots in one cut). By AI agents, Wed Nov 11 2026. No macro, syntax, notation, axiom, sorry.
-/
import Derived.Test.YtfcodaigdigjmaaChecked
import GoSem.Claim
import GoSem.ClaimJoined
import GoSem.ClaimMapViews
import Derived.JoinedTies
import Derived.KernelRfl
namespace Go.Proofs.Ytfcodaigdigjmaa
/- THE CELL 'sum', in the pinned program and in every row, IS THE sha256 OF THE DUMP (.gsa) THAT YtfcodaigdigjmaaProg.lean LOADS. Nothing in Lean hashes anything: it is a label: what it is worth is what the hold of that sum in a sandbox is worth. -/
noncomputable def Try.pinned : Pinned := { name := "ytfcodaigdigjmaa", sum := "94443af5d1008c49abc5c4f0af21ed317d1b6318098f8736b7678cf3dc6a9a35", checked := Try.checked }
namespace Rows
def none {H : Type} : Left H := { results := [], args := [] }

/-- 'sortitionlaw09.PortionScale': WHATEVER THE INPUT: true; the input reads as it did. -/
def portionScaleSpec : ChangeSpec := { name := "portionScale", fn := fun _ => fun
  | [d1, d2] => { results := [.lit (.bool true)], args := [d1, d2] }
  | _ => none }
def portionScaleRow : OpenClaim := { program := "ytfcodaigdigjmaa", sum := "94443af5d1008c49abc5c4f0af21ed317d1b6318098f8736b7678cf3dc6a9a35", func := "sortition/sortitionlaw09.PortionScale", spec := "portionScale", inPlace := ["math/bits.Add64", "math/bits.Sub64"], unfollowed := true, recurses := true, apart := false }
def PortionScaleSaid : Prop := portionScaleRow.holds Try.pinned (OpenSpec.ofChange portionScaleSpec)

/-- ITS FALSE NEIGHBOUR: 'it returns false'. Refute it at one input. -/
def portionScaleWrong : ChangeSpec := { name := "portionScale", fn := fun _ => fun
  | [d1, d2] => { results := [.lit (.bool false)], args := [d1, d2] }
  | _ => none }
def PortionScaleWrongFalsely : Prop := portionScaleRow.holds Try.pinned (OpenSpec.ofChange portionScaleWrong)

/-- 'sortitionlaw09.PortionShares': WHATEVER THE INPUT: true; the input reads as it did. -/
def portionSharesSpec : ChangeSpec := { name := "portionShares", fn := fun _ => fun
  | [d1, d2, d3, d4] => { results := [.lit (.bool true)], args := [d1, d2, d3, d4] }
  | _ => none }
def portionSharesRow : OpenClaim := { program := "ytfcodaigdigjmaa", sum := "94443af5d1008c49abc5c4f0af21ed317d1b6318098f8736b7678cf3dc6a9a35", func := "sortition/sortitionlaw09.PortionShares", spec := "portionShares", inPlace := ["math/bits.Add64", "math/bits.Sub64"], unfollowed := true, recurses := true, apart := false }
def PortionSharesSaid : Prop := portionSharesRow.holds Try.pinned (OpenSpec.ofChange portionSharesSpec)

/-- ITS FALSE NEIGHBOUR: 'it returns false'. Refute it at one input. -/
def portionSharesWrong : ChangeSpec := { name := "portionShares", fn := fun _ => fun
  | [d1, d2, d3, d4] => { results := [.lit (.bool false)], args := [d1, d2, d3, d4] }
  | _ => none }
def PortionSharesWrongFalsely : Prop := portionSharesRow.holds Try.pinned (OpenSpec.ofChange portionSharesWrong)

/-- 'sortitionlaw09.PortionAll': WHATEVER THE INPUT: true; the input reads as it did. -/
def portionAllSpec : ChangeSpec := { name := "portionAll", fn := fun _ => fun
  | [d1, d2] => { results := [.lit (.bool true)], args := [d1, d2] }
  | _ => none }
def portionAllRow : OpenClaim := { program := "ytfcodaigdigjmaa", sum := "94443af5d1008c49abc5c4f0af21ed317d1b6318098f8736b7678cf3dc6a9a35", func := "sortition/sortitionlaw09.PortionAll", spec := "portionAll", inPlace := ["math/bits.Add64", "math/bits.Sub64"], unfollowed := true, recurses := true, apart := false }
def PortionAllSaid : Prop := portionAllRow.holds Try.pinned (OpenSpec.ofChange portionAllSpec)

/-- ITS FALSE NEIGHBOUR: 'it returns false'. Refute it at one input. -/
def portionAllWrong : ChangeSpec := { name := "portionAll", fn := fun _ => fun
  | [d1, d2] => { results := [.lit (.bool false)], args := [d1, d2] }
  | _ => none }
def PortionAllWrongFalsely : Prop := portionAllRow.holds Try.pinned (OpenSpec.ofChange portionAllWrong)

/-- 'sortitionlaw09.PortionOwners': WHATEVER THE INPUT: true; the input reads as it did. -/
def portionOwnersSpec : ChangeSpec := { name := "portionOwners", fn := fun _ => fun
  | [d] => { results := [.lit (.bool true)], args := [d] }
  | _ => none }
def portionOwnersRow : OpenClaim := { program := "ytfcodaigdigjmaa", sum := "94443af5d1008c49abc5c4f0af21ed317d1b6318098f8736b7678cf3dc6a9a35", func := "sortition/sortitionlaw09.PortionOwners", spec := "portionOwners", inPlace := ["math/bits.Add64", "math/bits.Sub64"], unfollowed := true, recurses := true, apart := false }
def PortionOwnersSaid : Prop := portionOwnersRow.holds Try.pinned (OpenSpec.ofChange portionOwnersSpec)

/-- ITS FALSE NEIGHBOUR: 'it returns false'. Refute it at one input. -/
def portionOwnersWrong : ChangeSpec := { name := "portionOwners", fn := fun _ => fun
  | [d] => { results := [.lit (.bool false)], args := [d] }
  | _ => none }
def PortionOwnersWrongFalsely : Prop := portionOwnersRow.holds Try.pinned (OpenSpec.ofChange portionOwnersWrong)

/-- 'sortitionlaw09.PortionRanges': WHATEVER THE INPUT: true; the input reads as it did. -/
def portionRangesSpec : ChangeSpec := { name := "portionRanges", fn := fun _ => fun
  | [d] => { results := [.lit (.bool true)], args := [d] }
  | _ => none }
def portionRangesRow : OpenClaim := { program := "ytfcodaigdigjmaa", sum := "94443af5d1008c49abc5c4f0af21ed317d1b6318098f8736b7678cf3dc6a9a35", func := "sortition/sortitionlaw09.PortionRanges", spec := "portionRanges", inPlace := ["math/bits.Add64", "math/bits.Sub64"], unfollowed := true, recurses := true, apart := false }
def PortionRangesSaid : Prop := portionRangesRow.holds Try.pinned (OpenSpec.ofChange portionRangesSpec)

/-- ITS FALSE NEIGHBOUR: 'it returns false'. Refute it at one input. -/
def portionRangesWrong : ChangeSpec := { name := "portionRanges", fn := fun _ => fun
  | [d] => { results := [.lit (.bool false)], args := [d] }
  | _ => none }
def PortionRangesWrongFalsely : Prop := portionRangesRow.holds Try.pinned (OpenSpec.ofChange portionRangesWrong)

/- THE SECOND FORM. 'bulk': how many values and letters a reading holds, each counted each time it is reached (what is shared counts as often as it is met; a slice's spare places count too). A statement '..UptoSaid' is the law's where the arguments, and the package variables that the reading takes, are together of bulk at most 1048576: NARROWER than '..Said'. Prove '..Said' where nothing that the law and all that it calls make is longer than what came in: it says more and counts as full. Else prove '..UptoSaid'. A law counts once. -/
mutual
def uptoBulk {H : Type} : DataW H → Nat
  | .lit (.string bytes) => bytes.length + 1
  | .lit _ => 1
  | .nil => 1
  | .ptr d => uptoBulk d + 1
  | .slice elems spare => uptoBulkAll elems + uptoBulkAll spare + 1
  | .agg parts => uptoBulkAll parts + 1
  | .iface _ d => uptoBulk d + 1
  | .map entries => uptoBulkEntries entries + 1
  | .held _ => 1
def uptoBulkAll {H : Type} : List (DataW H) → Nat
  | [] => 0
  | d :: r => uptoBulk d + uptoBulkAll r
def uptoBulkEntries {H : Type} : List (Lit × DataW H) → Nat
  | [] => 0
  | x :: r => uptoBulkEntry x + uptoBulkEntries r
def uptoBulkEntry {H : Type} : Lit × DataW H → Nat
  | (.string bytes, d) => bytes.length + uptoBulk d + 1
  | (_, d) => uptoBulk d + 1
 end
def uptoSmall : (H : Type) → List (DataW H) → Bool := fun _ ds => decide (uptoBulkAll ds ≤ 1048576)
def OpenSpec.upto (s : _root_.Go.ChangeSpec) : _root_.Go.OpenSpec := { _root_.Go.OpenSpec.ofChange s with cond := some uptoSmall }

/-- 'sortitionlaw09.PortionScale', WHERE WHAT IT READS IS OF BULK AT MOST 1048576: true; the input reads as it did. -/
def portionScaleUptoRow : OpenClaim := { program := "ytfcodaigdigjmaa", sum := "94443af5d1008c49abc5c4f0af21ed317d1b6318098f8736b7678cf3dc6a9a35", func := "sortition/sortitionlaw09.PortionScale", spec := "portionScale", inPlace := ["math/bits.Add64", "math/bits.Sub64"], unfollowed := true, recurses := true, apart := false, narrowed := true }
def PortionScaleUptoSaid : Prop := portionScaleUptoRow.holds Try.pinned (OpenSpec.upto portionScaleSpec)

/-- 'sortitionlaw09.PortionShares', WHERE WHAT IT READS IS OF BULK AT MOST 1048576: true; the input reads as it did. -/
def portionSharesUptoRow : OpenClaim := { program := "ytfcodaigdigjmaa", sum := "94443af5d1008c49abc5c4f0af21ed317d1b6318098f8736b7678cf3dc6a9a35", func := "sortition/sortitionlaw09.PortionShares", spec := "portionShares", inPlace := ["math/bits.Add64", "math/bits.Sub64"], unfollowed := true, recurses := true, apart := false, narrowed := true }
def PortionSharesUptoSaid : Prop := portionSharesUptoRow.holds Try.pinned (OpenSpec.upto portionSharesSpec)

/-- 'sortitionlaw09.PortionAll', WHERE WHAT IT READS IS OF BULK AT MOST 1048576: true; the input reads as it did. -/
def portionAllUptoRow : OpenClaim := { program := "ytfcodaigdigjmaa", sum := "94443af5d1008c49abc5c4f0af21ed317d1b6318098f8736b7678cf3dc6a9a35", func := "sortition/sortitionlaw09.PortionAll", spec := "portionAll", inPlace := ["math/bits.Add64", "math/bits.Sub64"], unfollowed := true, recurses := true, apart := false, narrowed := true }
def PortionAllUptoSaid : Prop := portionAllUptoRow.holds Try.pinned (OpenSpec.upto portionAllSpec)

/-- 'sortitionlaw09.PortionOwners', WHERE WHAT IT READS IS OF BULK AT MOST 1048576: true; the input reads as it did. -/
def portionOwnersUptoRow : OpenClaim := { program := "ytfcodaigdigjmaa", sum := "94443af5d1008c49abc5c4f0af21ed317d1b6318098f8736b7678cf3dc6a9a35", func := "sortition/sortitionlaw09.PortionOwners", spec := "portionOwners", inPlace := ["math/bits.Add64", "math/bits.Sub64"], unfollowed := true, recurses := true, apart := false, narrowed := true }
def PortionOwnersUptoSaid : Prop := portionOwnersUptoRow.holds Try.pinned (OpenSpec.upto portionOwnersSpec)

/-- 'sortitionlaw09.PortionRanges', WHERE WHAT IT READS IS OF BULK AT MOST 1048576: true; the input reads as it did. -/
def portionRangesUptoRow : OpenClaim := { program := "ytfcodaigdigjmaa", sum := "94443af5d1008c49abc5c4f0af21ed317d1b6318098f8736b7678cf3dc6a9a35", func := "sortition/sortitionlaw09.PortionRanges", spec := "portionRanges", inPlace := ["math/bits.Add64", "math/bits.Sub64"], unfollowed := true, recurses := true, apart := false, narrowed := true }
def PortionRangesUptoSaid : Prop := portionRangesUptoRow.holds Try.pinned (OpenSpec.upto portionRangesSpec)

end Rows
end Go.Proofs.Ytfcodaigdigjmaa
