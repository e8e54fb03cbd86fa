/- JournalWrites: what is written; frames, whole or refused. No program in sight. -/
import Derived.Test.YtganfkmkapogmaaDoorQ11
import Derived.Test.YtganfkmkapogmaaDoorK7
namespace Go.Proofs.YtganfkmkapogmaaDoor
open Go.RowKit
set_option linter.unusedVariables false
structure OpR where
  A : Option Addr
  m : Nat
  c : Nat
  b : B8
  n : Int
  t : Bool
  g : Bool
def OpR.v (o : OpR) : Value := .slice o.A o.m o.c
def opC (o : OpR) : List Value := [o.v, it o.n, .bool o.t, .bool o.g]
instance : FS opC 4 := ⟨fun o => rfl, fun o v hv => by
  simp only [opC, List.mem_cons, List.not_mem_nil, or_false] at hv
  rcases hv with rfl | rfl | rfl | rfl <;> rfl⟩
theorem OpR.one (o : OpR) : o.v.oneCell' = true := rfl
theorem OpR.v_eq (o : OpR) : o.v = .slice o.A o.m o.c := rfl
attribute [irreducible] OpR.v
def opAt (L : List OpR) (k : Nat) : OpR := L.getD k ⟨none, 0, 0, [], 0, false, false⟩
def opP (L : List OpR) : Pcs := L.map fun o => (o.v, o.b)
theorem op_res {L : List OpR} {k : Nat} (h : k < L.length) : Res.rd (opAt L k).v (opAt L k).b.length 1 ((opAt L k).b.map u8) ∈ pcRes (opP L) := by
  refine List.mem_map.2 ⟨((opAt L k).v, (opAt L k).b), List.mem_map.2 ⟨opAt L k, ?_, rfl⟩, rfl⟩
  unfold opAt
  rw [List.getD_eq_getElem?_getD, List.getElem?_eq_getElem h]
  exact List.getElem_mem h
theorem op_at {L : List OpR} {k : Nat} (h : k < L.length) : ((bks opC L).drop (k * 4)).take 4 = [(opAt L k).v, it (opAt L k).n, .bool (opAt L k).t, .bool (opAt L k).g] := bks_piece (f := opC) _ h
def frF (b : B8) : B8 := if b.length ≤ 4000 then frameB b else []
def frE (b : B8) : Int := if b.length ≤ 4000 then 0 else 2
theorem frF_len (b : B8) (h : ¬ (b.length > 100 ∧ b.length ≤ 4000)) : (frF b).length ≤ 108 := by
  unfold frF
  split
  · rw [frameB_len]; omega
  · simp
theorem row_pre {v : Value} {e : TypeId} {F : B8} {q : Nat} (h : q ≤ F.length) : Res.row v q e 1 ((F.map u8).take (q * 1)) = Res.row v (F.take q).length e 1 ((F.take q).map u8) := by
  rw [Nat.mul_one, List.length_take, Nat.min_eq_left h, List.map_take]
theorem row_good {v : Value} {e : TypeId} {d : B8} : Res.row v (endOf (recs d)) e 1 ((d.map u8).take (endOf (recs d) * 1)) = Res.row v (flat (recs d)).length e 1 ((flat (recs d)).map u8) := by
  rw [row_pre (end_le d), take_good]
end Go.Proofs.YtganfkmkapogmaaDoor
