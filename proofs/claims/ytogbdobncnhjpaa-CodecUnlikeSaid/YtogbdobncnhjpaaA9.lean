/- From what a given statement hands in to the calculus, and back. No program in sight. -/
import Derived.Test.YtogbdobncnhjpaaA8
import Derived.WalkKit
import Derived.ProofKit
import Derived.OpenShut
import Derived.ShutString
import Derived.ChangeOld
import Derived.Below
namespace Go.Proofs.Ytogbdobncnhjpaa
open Go.RowKit
theorem FP_nil {k : Nat} : ¬ FP [] k := fun ⟨r, hr, _⟩ => by cases hr
theorem St.below {Γ Γ0 H : RL} {w w' : World} (h : St ⟨w, Γ0, []⟩ Γ H w') : Below w.heap.size w w' := (h.stp.mono (fun _ _ hk => absurd hk FP_nil)).below
theorem u64_of {a : Int} (h : (Lit.int .u64 a).wf = true) : ∃ x : BitVec 64, Value.int .u64 a = u64 x := by
  simp only [Lit.wf, Bool.and_eq_true, decide_eq_true_eq, show IntKind.u64.min = 0 from rfl, show IntKind.u64.max = 18446744073709551615 from rfl] at h
  refine ⟨BitVec.ofNat 64 a.toNat, ?_⟩
  unfold u64
  rw [BitVec.toNat_ofNat, Nat.mod_eq_of_lt (by omega)]
  congr 1
  omega
theorem u8_of {a : Int} (h : (Lit.int .u8 a).wf = true) : ∃ x : BitVec 8, Value.int .u8 a = u8 x := by
  simp only [Lit.wf, Bool.and_eq_true, decide_eq_true_eq, show IntKind.u8.min = 0 from rfl, show IntKind.u8.max = 255 from rfl] at h
  refine ⟨BitVec.ofNat 8 a.toNat, ?_⟩
  unfold u8
  rw [BitVec.toNat_ofNat, Nat.mod_eq_of_lt (by omega)]
  congr 1
  omega
theorem it_of {a : Int} (h : (Lit.int .i64 a).wf = true) : Fits a := by
  simp only [Lit.wf, Bool.and_eq_true, decide_eq_true_eq, show IntKind.i64.min = -9223372036854775808 from rfl, show IntKind.i64.max = 9223372036854775807 from rfl] at h
  exact h
end Go.Proofs.Ytogbdobncnhjpaa
