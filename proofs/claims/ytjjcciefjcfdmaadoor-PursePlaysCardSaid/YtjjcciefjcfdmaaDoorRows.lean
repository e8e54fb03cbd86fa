/-
  NARROWER THAN 'FOR EVERY INPUT', by the rows' own cells (each row's printed sentence says how): PurseFair: laid · PurseBack: laid · PurseRefused: laid · PursePlays: laid · PurseStays: laid.
  DERIVED. THE GIVEN ROWS OF THIS SEAT. 5 by the template 'for every input the law returns true; each argument reads behind the call as it read before'; 0 by the template 'total and deterministic' (their statements: YtjjcciefjcfdmaaDoorTotals.lean).
  GIVEN WITH THE SEED: the statements are not yours to turn. If you find one false, say at which input.
  Laid BY PROGRAM, IN A SANDBOX (cutbox-rows.mjs): the forced cells as the released guide's own fill.sh prints them over the translation b7e874be757d063c… (all of the seat's roots in one cut). By AI agents, Wed Nov 11 2026. No macro, syntax, notation, axiom, sorry.
-/
import Derived.Test.YtjjcciefjcfdmaaDoorChecked
import GoSem.Claim
import GoSem.ClaimJoined
import GoSem.ClaimMapViews
import Derived.JoinedTies
import Derived.KernelRfl
namespace Go.Proofs.YtjjcciefjcfdmaaDoor
/- THE CELL 'sum', in the pinned program and in every row, IS THE sha256 OF THE DUMP (.gsa) THAT YtjjcciefjcfdmaaDoorProg.lean LOADS. Nothing in Lean hashes anything: it is a label: what it is worth is what the hold of that sum in a sandbox is worth. -/
noncomputable def Tryd.pinned : Pinned := { name := "ytjjcciefjcfdmaadoor", sum := "b7e874be757d063c568a90ed343c48a6235ce188a9213f86f3c6a7f79a9fe0c1", checked := Tryd.checked }
namespace Rows
def none {H : Type} : Left H := { results := [], args := [] }

/- WHAT THE LISTED PACKAGE-LEVEL VARIABLES READ AS WHEN THE CALL BEGINS. Each datum BY PROGRAM (the guide's laid-datum.mjs) off the statement by which the dump's own 'gosem.cut.vars' lays the variable. In a bare row this is a premise. The card (YtjjcciefjcfdmaaDoorCards.lean) ties it to the program's text. -/
def laid_sortition_purse_limit {H : Type} : DataW H := .agg [.lit (.int .u64 9223372036854775808), .lit (.int .u64 0), .lit (.int .u64 0), .lit (.int .u64 0)]

/-- 'sortitionlaw12.PurseFair': WHATEVER THE INPUT: true; the input reads as it did. -/
def purseFairSpec : ChangeSpec := { name := "purseFair", fn := fun _ => fun
  | [d1, d2] => { results := [.lit (.bool true)], args := [d1, d2] }
  | _ => none }
def purseFairRow : OpenClaim := { program := "ytjjcciefjcfdmaadoor", sum := "b7e874be757d063c568a90ed343c48a6235ce188a9213f86f3c6a7f79a9fe0c1", func := "sortition/sortitionlaw12.PurseFair", spec := "purseFair", inPlace := ["math/bits.Add64", "math/bits.Sub64"], unfollowed := true, recurses := true, named := ["sortition/purse.limit"], apart := false, laid := [("sortition/purse.limit", laid_sortition_purse_limit)] }
def PurseFairSaid : Prop := purseFairRow.holds Tryd.pinned (OpenSpec.ofChange purseFairSpec)

/-- ITS FALSE NEIGHBOUR: 'it returns false'. Refute it at one input. -/
def purseFairWrong : ChangeSpec := { name := "purseFair", fn := fun _ => fun
  | [d1, d2] => { results := [.lit (.bool false)], args := [d1, d2] }
  | _ => none }
def PurseFairWrongFalsely : Prop := purseFairRow.holds Tryd.pinned (OpenSpec.ofChange purseFairWrong)

/-- 'sortitionlaw12.PurseBack': WHATEVER THE INPUT: true; the input reads as it did. -/
def purseBackSpec : ChangeSpec := { name := "purseBack", fn := fun _ => fun
  | [d1, d2, d3, d4] => { results := [.lit (.bool true)], args := [d1, d2, d3, d4] }
  | _ => none }
def purseBackRow : OpenClaim := { program := "ytjjcciefjcfdmaadoor", sum := "b7e874be757d063c568a90ed343c48a6235ce188a9213f86f3c6a7f79a9fe0c1", func := "sortition/sortitionlaw12.PurseBack", spec := "purseBack", inPlace := ["math/bits.Add64", "math/bits.Sub64"], unfollowed := true, recurses := true, named := ["sortition/purse.limit"], apart := false, laid := [("sortition/purse.limit", laid_sortition_purse_limit)] }
def PurseBackSaid : Prop := purseBackRow.holds Tryd.pinned (OpenSpec.ofChange purseBackSpec)

/-- ITS FALSE NEIGHBOUR: 'it returns false'. Refute it at one input. -/
def purseBackWrong : ChangeSpec := { name := "purseBack", fn := fun _ => fun
  | [d1, d2, d3, d4] => { results := [.lit (.bool false)], args := [d1, d2, d3, d4] }
  | _ => none }
def PurseBackWrongFalsely : Prop := purseBackRow.holds Tryd.pinned (OpenSpec.ofChange purseBackWrong)

/-- 'sortitionlaw12.PurseRefused': WHATEVER THE INPUT: true; the input reads as it did. -/
def purseRefusedSpec : ChangeSpec := { name := "purseRefused", fn := fun _ => fun
  | [d1, d2] => { results := [.lit (.bool true)], args := [d1, d2] }
  | _ => none }
def purseRefusedRow : OpenClaim := { program := "ytjjcciefjcfdmaadoor", sum := "b7e874be757d063c568a90ed343c48a6235ce188a9213f86f3c6a7f79a9fe0c1", func := "sortition/sortitionlaw12.PurseRefused", spec := "purseRefused", inPlace := ["math/bits.Add64", "math/bits.Sub64"], unfollowed := true, recurses := true, named := ["sortition/purse.limit"], apart := false, laid := [("sortition/purse.limit", laid_sortition_purse_limit)] }
def PurseRefusedSaid : Prop := purseRefusedRow.holds Tryd.pinned (OpenSpec.ofChange purseRefusedSpec)

/-- ITS FALSE NEIGHBOUR: 'it returns false'. Refute it at one input. -/
def purseRefusedWrong : ChangeSpec := { name := "purseRefused", fn := fun _ => fun
  | [d1, d2] => { results := [.lit (.bool false)], args := [d1, d2] }
  | _ => none }
def PurseRefusedWrongFalsely : Prop := purseRefusedRow.holds Tryd.pinned (OpenSpec.ofChange purseRefusedWrong)

/-- 'sortitionlaw12.PursePlays': WHATEVER THE INPUT: true; the input reads as it did. -/
def pursePlaysSpec : ChangeSpec := { name := "pursePlays", fn := fun _ => fun
  | [d1, d2] => { results := [.lit (.bool true)], args := [d1, d2] }
  | _ => none }
def pursePlaysRow : OpenClaim := { program := "ytjjcciefjcfdmaadoor", sum := "b7e874be757d063c568a90ed343c48a6235ce188a9213f86f3c6a7f79a9fe0c1", func := "sortition/sortitionlaw12.PursePlays", spec := "pursePlays", inPlace := ["math/bits.Add64", "math/bits.Sub64"], unfollowed := true, recurses := true, named := ["sortition/purse.limit"], apart := false, laid := [("sortition/purse.limit", laid_sortition_purse_limit)] }
def PursePlaysSaid : Prop := pursePlaysRow.holds Tryd.pinned (OpenSpec.ofChange pursePlaysSpec)

/-- ITS FALSE NEIGHBOUR: 'it returns false'. Refute it at one input. -/
def pursePlaysWrong : ChangeSpec := { name := "pursePlays", fn := fun _ => fun
  | [d1, d2] => { results := [.lit (.bool false)], args := [d1, d2] }
  | _ => none }
def PursePlaysWrongFalsely : Prop := pursePlaysRow.holds Tryd.pinned (OpenSpec.ofChange pursePlaysWrong)

/-- 'sortitionlaw12.PurseStays': WHATEVER THE INPUT: true; the input reads as it did. -/
def purseStaysSpec : ChangeSpec := { name := "purseStays", fn := fun _ => fun
  | [d1, d2] => { results := [.lit (.bool true)], args := [d1, d2] }
  | _ => none }
def purseStaysRow : OpenClaim := { program := "ytjjcciefjcfdmaadoor", sum := "b7e874be757d063c568a90ed343c48a6235ce188a9213f86f3c6a7f79a9fe0c1", func := "sortition/sortitionlaw12.PurseStays", spec := "purseStays", inPlace := ["math/bits.Add64", "math/bits.Sub64"], unfollowed := true, recurses := true, named := ["sortition/purse.limit"], apart := false, laid := [("sortition/purse.limit", laid_sortition_purse_limit)] }
def PurseStaysSaid : Prop := purseStaysRow.holds Tryd.pinned (OpenSpec.ofChange purseStaysSpec)

/-- ITS FALSE NEIGHBOUR: 'it returns false'. Refute it at one input. -/
def purseStaysWrong : ChangeSpec := { name := "purseStays", fn := fun _ => fun
  | [d1, d2] => { results := [.lit (.bool false)], args := [d1, d2] }
  | _ => none }
def PurseStaysWrongFalsely : Prop := purseStaysRow.holds Tryd.pinned (OpenSpec.ofChange purseStaysWrong)

/- THE SECOND FORM. 'bulk': how many values and letters a reading holds, each counted each time it is reached (what is shared counts as often as it is met; a slice's spare places count too). A statement '..UptoSaid' is the law's where the arguments, and the package variables that the reading takes, are together of bulk at most 1048576: NARROWER than '..Said'. Prove '..Said' where nothing that the law and all that it calls make is longer than what came in: it says more and counts as full. Else prove '..UptoSaid'. A law counts once. -/
mutual
def uptoBulk {H : Type} : DataW H → Nat
  | .lit (.string bytes) => bytes.length + 1
  | .lit _ => 1
  | .nil => 1
  | .ptr d => uptoBulk d + 1
  | .slice elems spare => uptoBulkAll elems + uptoBulkAll spare + 1
  | .agg parts => uptoBulkAll parts + 1
  | .iface _ d => uptoBulk d + 1
  | .map entries => uptoBulkEntries entries + 1
  | .held _ => 1
def uptoBulkAll {H : Type} : List (DataW H) → Nat
  | [] => 0
  | d :: r => uptoBulk d + uptoBulkAll r
def uptoBulkEntries {H : Type} : List (Lit × DataW H) → Nat
  | [] => 0
  | x :: r => uptoBulkEntry x + uptoBulkEntries r
def uptoBulkEntry {H : Type} : Lit × DataW H → Nat
  | (.string bytes, d) => bytes.length + uptoBulk d + 1
  | (_, d) => uptoBulk d + 1
 end
def uptoSmall : (H : Type) → List (DataW H) → Bool := fun _ ds => decide (uptoBulkAll ds ≤ 1048576)
def OpenSpec.upto (s : _root_.Go.ChangeSpec) : _root_.Go.OpenSpec := { _root_.Go.OpenSpec.ofChange s with cond := some uptoSmall }

/-- 'sortitionlaw12.PurseFair', WHERE WHAT IT READS IS OF BULK AT MOST 1048576: true; the input reads as it did. -/
def purseFairUptoRow : OpenClaim := { program := "ytjjcciefjcfdmaadoor", sum := "b7e874be757d063c568a90ed343c48a6235ce188a9213f86f3c6a7f79a9fe0c1", func := "sortition/sortitionlaw12.PurseFair", spec := "purseFair", inPlace := ["math/bits.Add64", "math/bits.Sub64"], unfollowed := true, recurses := true, named := ["sortition/purse.limit"], apart := false, laid := [("sortition/purse.limit", laid_sortition_purse_limit)], narrowed := true }
def PurseFairUptoSaid : Prop := purseFairUptoRow.holds Tryd.pinned (OpenSpec.upto purseFairSpec)

/-- 'sortitionlaw12.PurseBack', WHERE WHAT IT READS IS OF BULK AT MOST 1048576: true; the input reads as it did. -/
def purseBackUptoRow : OpenClaim := { program := "ytjjcciefjcfdmaadoor", sum := "b7e874be757d063c568a90ed343c48a6235ce188a9213f86f3c6a7f79a9fe0c1", func := "sortition/sortitionlaw12.PurseBack", spec := "purseBack", inPlace := ["math/bits.Add64", "math/bits.Sub64"], unfollowed := true, recurses := true, named := ["sortition/purse.limit"], apart := false, laid := [("sortition/purse.limit", laid_sortition_purse_limit)], narrowed := true }
def PurseBackUptoSaid : Prop := purseBackUptoRow.holds Tryd.pinned (OpenSpec.upto purseBackSpec)

/-- 'sortitionlaw12.PurseRefused', WHERE WHAT IT READS IS OF BULK AT MOST 1048576: true; the input reads as it did. -/
def purseRefusedUptoRow : OpenClaim := { program := "ytjjcciefjcfdmaadoor", sum := "b7e874be757d063c568a90ed343c48a6235ce188a9213f86f3c6a7f79a9fe0c1", func := "sortition/sortitionlaw12.PurseRefused", spec := "purseRefused", inPlace := ["math/bits.Add64", "math/bits.Sub64"], unfollowed := true, recurses := true, named := ["sortition/purse.limit"], apart := false, laid := [("sortition/purse.limit", laid_sortition_purse_limit)], narrowed := true }
def PurseRefusedUptoSaid : Prop := purseRefusedUptoRow.holds Tryd.pinned (OpenSpec.upto purseRefusedSpec)

/-- 'sortitionlaw12.PursePlays', WHERE WHAT IT READS IS OF BULK AT MOST 1048576: true; the input reads as it did. -/
def pursePlaysUptoRow : OpenClaim := { program := "ytjjcciefjcfdmaadoor", sum := "b7e874be757d063c568a90ed343c48a6235ce188a9213f86f3c6a7f79a9fe0c1", func := "sortition/sortitionlaw12.PursePlays", spec := "pursePlays", inPlace := ["math/bits.Add64", "math/bits.Sub64"], unfollowed := true, recurses := true, named := ["sortition/purse.limit"], apart := false, laid := [("sortition/purse.limit", laid_sortition_purse_limit)], narrowed := true }
def PursePlaysUptoSaid : Prop := pursePlaysUptoRow.holds Tryd.pinned (OpenSpec.upto pursePlaysSpec)

/-- 'sortitionlaw12.PurseStays', WHERE WHAT IT READS IS OF BULK AT MOST 1048576: true; the input reads as it did. -/
def purseStaysUptoRow : OpenClaim := { program := "ytjjcciefjcfdmaadoor", sum := "b7e874be757d063c568a90ed343c48a6235ce188a9213f86f3c6a7f79a9fe0c1", func := "sortition/sortitionlaw12.PurseStays", spec := "purseStays", inPlace := ["math/bits.Add64", "math/bits.Sub64"], unfollowed := true, recurses := true, named := ["sortition/purse.limit"], apart := false, laid := [("sortition/purse.limit", laid_sortition_purse_limit)], narrowed := true }
def PurseStaysUptoSaid : Prop := purseStaysUptoRow.holds Tryd.pinned (OpenSpec.upto purseStaysSpec)

end Rows
end Go.Proofs.YtjjcciefjcfdmaaDoor
