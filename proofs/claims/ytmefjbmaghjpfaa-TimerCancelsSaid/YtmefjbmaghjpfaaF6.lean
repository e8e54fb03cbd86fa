/- Walk: the chapter's examples. -/
import Derived.Test.YtmefjbmaghjpfaaF5
namespace Go.Proofs.Ytmefjbmaghjpfaa
open Go.RowKit
set_option maxRecDepth 100000
set_option linter.unusedVariables false
set_option linter.unusedSimpArgs false

theorem f6_spec  :
    Spec Try.prog 6 #[] [] []
      (fun r Γ' H' => r = (.bool true) ∧ Γ' = [] ∧ H' = []) := by
  refine Spec.of_args Try.func6 rfl Try.ntmps6 (by simp) fun w => ?_
  refine JC.seq ?_
  refine JC.region ?_
  refine JO.v (Yv.assign rfl) (by decide) ?_
  refine JO.nil ?_
  refine JQ.then_normal ?_
  refine JC.seq ?_
  refine JC.region ?_
  refine JO.v (Yv.as (v' := .agg [.slice none 0 0, u64 (BitVec.ofNat 64 0)].toArray) (Yv.build bld_28 rfl rfl) rfl) (by decide) ?_
  refine JO.nilRow 59 3 ?_
  refine JO.box rfl _ rfl (by decide) fun b9 => ?_
  refine JO.v (Yv.assign rfl) (by decide) ?_
  refine JO.nil ?_
  refine JQ.then_normal ?_
  refine JC.seq ?_
  refine JC.region ?_
  refine JO.v (Yv.move rfl) (by decide) ?_
  refine JO.callB (f7_spec b9 (.slice none 0 0) [] 0 [] QR.nil (by decide +kernel) (by decide) 5#64 1) body_7 rfl (by repeat (first | exact Picks.nil _ | apply Picks.cons | exact Pull.here _ _ | apply Pull.there)) (by repeat (first | exact Lends.nil _ | apply Lends.cons | exact Lend.same _ _ | exact Lend.row _ _ _ _ _ _ (by decide) | apply Lend.there)) (by rintro _ _ _ ⟨_, _, _, _, h, _⟩; exact h) (by decide) ?_
  rintro _ _ ⟨_, ⟨va, hsa, rfl, hQa, _, rfl⟩, hH⟩
  simp only [List.cons_append, List.nil_append] at hH; subst hH
  rw [show addO 0 [] = 1 from by decide +kernel, show addL ⟨5#64, 1⟩ [] = [⟨5#64, 1⟩] from by decide +kernel] at hQa
  rw [show addO 0 [] = 1 from by decide +kernel]
  refine JO.nil ?_
  refine JQ.then_normal ?_
  refine JC.seq ?_
  refine JC.region ?_
  refine JO.v (Yv.move rfl) (by decide) ?_
  refine JO.callB (f7_spec b9 va hsa 1 [⟨5#64, 1⟩] hQa (by decide +kernel) (by decide) 3#64 2) body_7 rfl (by repeat (first | exact Picks.nil _ | apply Picks.cons | exact Pull.here _ _ | apply Pull.there)) (by repeat (first | exact Lends.nil _ | apply Lends.cons | exact Lend.same _ _ | exact Lend.row _ _ _ _ _ _ (by decide) | apply Lend.there)) (by rintro _ _ _ ⟨_, _, _, _, h, _⟩; exact h) (by decide) ?_
  rintro _ _ ⟨_, ⟨vb, hsb, rfl, hQb, _, rfl⟩, hH⟩
  simp only [List.cons_append, List.nil_append] at hH; subst hH
  rw [show addO 1 [⟨5#64, 1⟩] = 2 from by decide +kernel, show addL ⟨3#64, 2⟩ [⟨5#64, 1⟩] = [⟨3#64, 2⟩, ⟨5#64, 1⟩] from by decide +kernel] at hQb
  rw [show addO 1 [⟨5#64, 1⟩] = 2 from by decide +kernel]
  refine JO.nil ?_
  refine JQ.then_normal ?_
  refine JC.seq ?_
  refine JC.region ?_
  refine JO.v (Yv.move rfl) (by decide) ?_
  refine JO.callB (f7_spec b9 vb hsb 2 [⟨3#64, 2⟩, ⟨5#64, 1⟩] hQb (by decide +kernel) (by decide) 5#64 3) body_7 rfl (by repeat (first | exact Picks.nil _ | apply Picks.cons | exact Pull.here _ _ | apply Pull.there)) (by repeat (first | exact Lends.nil _ | apply Lends.cons | exact Lend.same _ _ | exact Lend.row _ _ _ _ _ _ (by decide) | apply Lend.there)) (by rintro _ _ _ ⟨_, _, _, _, h, _⟩; exact h) (by decide) ?_
  rintro _ _ ⟨_, ⟨vc, hsc, rfl, hQc, _, rfl⟩, hH⟩
  simp only [List.cons_append, List.nil_append] at hH; subst hH
  rw [show addO 2 [⟨3#64, 2⟩, ⟨5#64, 1⟩] = 3 from by decide +kernel, show addL ⟨5#64, 3⟩ [⟨3#64, 2⟩, ⟨5#64, 1⟩] = [⟨3#64, 2⟩, ⟨5#64, 1⟩, ⟨5#64, 3⟩] from by decide +kernel] at hQc
  rw [show addO 2 [⟨3#64, 2⟩, ⟨5#64, 1⟩] = 3 from by decide +kernel]
  refine JO.nil ?_
  refine JQ.then_normal ?_
  refine JC.seq ?_
  refine JC.region ?_
  refine JO.v (Yv.move rfl) (by decide) ?_
  refine JO.callB (f11_spec b9 vc (u64 (BitVec.ofNat 64 3)) hsc 3 [⟨3#64, 2⟩, ⟨5#64, 1⟩, ⟨5#64, 3⟩] hQc (by decide +kernel)) body_11 rfl (by repeat (first | exact Picks.nil _ | apply Picks.cons | exact Pull.here _ _ | apply Pull.there)) (by repeat (first | exact Lends.nil _ | apply Lends.cons | exact Lend.same _ _ | exact Lend.row _ _ _ _ _ _ (by decide) | apply Lend.there)) (by rintro _ _ _ ⟨_, _, _, _, h, _⟩; exact h) (by decide) ?_
  rintro _ _ ⟨_, ⟨vd, hsd, rfl, hQd, _, rfl⟩, hH⟩
  simp only [List.cons_append, List.nil_append] at hH; subst hH
  rw [show ([⟨3#64, 2⟩, ⟨5#64, 1⟩, ⟨5#64, 3⟩] : List It).tail = [⟨5#64, 1⟩, ⟨5#64, 3⟩] from rfl] at hQd
  refine JO.v (Yv.move rfl) (by decide) ?_
  refine JO.v (Yv.as (v' := .agg (⟨3#64, 2⟩ : It).cells.toArray) (Yv.extract rfl rfl) rfl) (by decide) ?_
  refine JO.v (Yv.as (v' := it 0) (Yv.extract rfl rfl) rfl) (by decide) ?_
  refine JO.alloc _ zero_35 rfl (by decide) fun b2 => ?_
  refine JO.storeAll sz_35 rfl rfl rfl rfl (it_one1 _) (by repeat (first | exact Upd.here _ _ _ | apply Upd.there)) rfl ?_
  refine JO.v (Yv.assign rfl) (by decide) ?_
  refine JO.nil ?_
  refine JQ.then_normal ?_
  refine JC.seq ?_
  refine JC.region ?_
  refine JO.v (Yv.move rfl) (by decide) ?_
  refine JO.callB (f8_spec b9 vd (u64 (BitVec.ofNat 64 3)) hsd 3 [⟨5#64, 1⟩, ⟨5#64, 3⟩] hQd (by decide +kernel) 5#64) body_8 rfl (by repeat (first | exact Picks.nil _ | apply Picks.cons | exact Pull.here _ _ | apply Pull.there)) (by repeat (first | exact Lends.nil _ | apply Lends.cons | exact Lend.same _ _ | exact Lend.row _ _ _ _ _ _ (by decide) | apply Lend.there)) (by rintro _ _ _ ⟨_, _, _, h, _⟩; exact h) (by decide) ?_
  rintro vo _ ⟨_, ⟨ve, hse, hQe, _, rfl⟩, hH⟩
  simp only [List.cons_append, List.nil_append] at hH; subst hH
  rw [show ([⟨5#64, 1⟩, ⟨5#64, 3⟩] : List It).dropWhile (dueP 5#64) = [] from by decide +kernel] at hQe
  rw [show ([⟨5#64, 1⟩, ⟨5#64, 3⟩] : List It).takeWhile (dueP 5#64) = [⟨5#64, 1⟩, ⟨5#64, 3⟩] from by decide +kernel]
  refine JO.v (Yv.assign rfl) (by decide) ?_
  refine JO.nil ?_
  refine JQ.then_normal ?_
  refine JC.seq ?_
  refine JC.region ?_
  refine JO.v (Yv.move rfl) (by decide) ?_
  refine JO.callB (f7_spec b9 ve hse 3 [] hQe (by decide +kernel) (by decide) 1#64 7) body_7 rfl (by repeat (first | exact Picks.nil _ | apply Picks.cons | exact Pull.here _ _ | apply Pull.there)) (by repeat (first | exact Lends.nil _ | apply Lends.cons | exact Lend.same _ _ | exact Lend.row _ _ _ _ _ _ (by decide) | apply Lend.there)) (by rintro _ _ _ ⟨_, _, _, _, h, _⟩; exact h) (by decide) ?_
  rintro _ _ ⟨_, ⟨vf, hsf, rfl, hQf, _, rfl⟩, hH⟩
  simp only [List.cons_append, List.nil_append] at hH; subst hH
  rw [show addO 3 [] = 4 from by decide +kernel, show addL ⟨1#64, 7⟩ [] = [⟨1#64, 7⟩] from by decide +kernel] at hQf
  rw [show addO 3 [] = 4 from by decide +kernel]
  refine JO.nil ?_
  refine JQ.then_normal ?_
  refine JC.seq ?_
  refine JC.region ?_
  refine JO.v (Yv.move rfl) (by decide) ?_
  refine JO.callB (f7_spec b9 vf hsf 4 [⟨1#64, 7⟩] hQf (by decide +kernel) (by decide) 2#64 7) body_7 rfl (by repeat (first | exact Picks.nil _ | apply Picks.cons | exact Pull.here _ _ | apply Pull.there)) (by repeat (first | exact Lends.nil _ | apply Lends.cons | exact Lend.same _ _ | exact Lend.row _ _ _ _ _ _ (by decide) | apply Lend.there)) (by rintro _ _ _ ⟨_, _, _, _, h, _⟩; exact h) (by decide) ?_
  rintro _ _ ⟨_, ⟨vg, hsg, rfl, hQg, _, rfl⟩, hH⟩
  simp only [List.cons_append, List.nil_append] at hH; subst hH
  rw [show addO 4 [⟨1#64, 7⟩] = 5 from by decide +kernel, show addL ⟨2#64, 7⟩ [⟨1#64, 7⟩] = [⟨1#64, 7⟩, ⟨2#64, 7⟩] from by decide +kernel] at hQg
  rw [show addO 4 [⟨1#64, 7⟩] = 5 from by decide +kernel]
  refine JO.nil ?_
  refine JQ.then_normal ?_
  refine JC.seq ?_
  refine JC.region ?_
  refine JO.v (Yv.move rfl) (by decide) ?_
  refine JO.callB (f15_spec b9 vg (u64 (BitVec.ofNat 64 5)) hsg 5 [⟨1#64, 7⟩, ⟨2#64, 7⟩] hQg (by decide +kernel) 7) body_15 rfl (by repeat (first | exact Picks.nil _ | apply Picks.cons | exact Pull.here _ _ | apply Pull.there)) (by repeat (first | exact Lends.nil _ | apply Lends.cons | exact Lend.same _ _ | exact Lend.row _ _ _ _ _ _ (by decide) | apply Lend.there)) (by rintro _ _ _ ⟨_, _, _, _, h, _⟩; exact h) (by decide) ?_
  rintro _ _ ⟨_, ⟨vh, hsh, rfl, hQh, _, rfl⟩, hH⟩
  simp only [List.cons_append, List.nil_append] at hH; subst hH
  rw [show ([⟨1#64, 7⟩, ⟨2#64, 7⟩] : List It).filter (fun x => decide (x.id ≠ 7)) = [] from by decide +kernel] at hQh
  refine JO.v (Yv.as (v' := it 2) (Yv.assign rfl) (congrArg it (by decide +kernel))) (by decide) ?_
  refine JO.nil ?_
  refine JQ.then_normal ?_
  refine JC.seq ?_
  refine JC.region ?_
  refine JO.v (Yv.move rfl) (by decide) ?_
  refine JO.callB (f11_spec b9 vh (u64 (BitVec.ofNat 64 5)) hsh 5 [] hQh (by decide +kernel)) body_11 rfl (by repeat (first | exact Picks.nil _ | apply Picks.cons | exact Pull.here _ _ | apply Pull.there)) (by repeat (first | exact Lends.nil _ | apply Lends.cons | exact Lend.same _ _ | exact Lend.row _ _ _ _ _ _ (by decide) | apply Lend.there)) (by rintro _ _ _ ⟨_, _, _, _, h, _⟩; exact h) (by decide) ?_
  rintro _ _ ⟨_, ⟨vi, hsi, rfl, hQi, _, rfl⟩, hH⟩
  simp only [List.cons_append, List.nil_append] at hH; subst hH
  refine JO.v (Yv.move rfl) (by decide) ?_
  refine JO.v (Yv.as (v' := .agg itD.cells.toArray) (Yv.extract rfl rfl) rfl) (by decide) ?_
  refine JO.v (Yv.as (v' := it 51) (Yv.extract rfl rfl) rfl) (by decide) ?_
  refine JO.alloc _ zero_35 rfl (by decide) fun b6 => ?_
  refine JO.storeAll sz_35 rfl rfl rfl rfl (it_one1 _) (by repeat (first | exact Upd.here _ _ _ | apply Upd.there)) rfl ?_
  refine JO.v (Yv.assign rfl) (by decide) ?_
  refine JO.nil ?_
  refine JQ.then_normal ?_
  refine JC.seq ?_
  refine JC.region ?_
  refine JO.v (Yv.fieldAddr fa_35_1 rfl) (by decide) ?_
  refine JO.v (Yv.as (v' := it 2) (Yv.load1 one_3 rfl (by first | exact Kn.own (by repeat (first | exact List.Mem.head _ | refine List.Mem.tail _ ?_)) (by first  | rfl | exact tab_get (by first | omega | (simp; omega)) | exact gm (d := 0) (by first | omega | (simp; omega))) | exact Kn.ro (by repeat (first | exact List.Mem.head _ | refine List.Mem.tail _ ?_)) (by first  | rfl | exact tab_get (by first | omega | (simp; omega)) | exact gm (d := 0) (by first | omega | (simp; omega))) | exact Kn.row (by repeat (first | exact List.Mem.head _ | refine List.Mem.tail _ ?_)) (by first  | rfl | exact tab_get (by first | omega | (simp; omega)) | exact gm (d := 0) (by first | omega | (simp; omega))) | exact Kn.rd (by repeat (first | exact Lend.same _ _ | exact Lend.row _ _ _ _ _ _ (by decide) | apply Lend.there)) (by first  | rfl | exact tab_get (by first | omega | (simp; omega)) | exact gm (d := 0) (by first | omega | (simp; omega))) | exact Kn.rd2 (by repeat (first | exact Lend.same _ _ | exact Lend.row _ _ _ _ _ _ (by decide) | apply Lend.there)) (by first  | rfl | exact tab_get (by first | omega | (simp; omega)) | exact gm (d := 0) (by first | omega | (simp; omega))))) rfl) (by decide) ?_
  refine JO.v (Yv.as (v' := .bool true) (Yv.bin rfl rfl BinR.eql_i) (congrArg Value.bool (by decide +kernel))) (by decide) ?_
  refine JO.v (Yv.move rfl) (by decide) ?_
  refine JO.gt (g := 37) rfl rfl rfl ?_
  refine JO.v (Yv.move rfl) (by decide) ?_
  refine JO.gt (g := 37) rfl rfl rfl ?_
  refine JO.v (Yv.as (v' := .agg (⟨5#64, 1⟩ : It).cells.toArray) (Yv.build bld_46 rfl rfl) rfl) (by decide) ?_
  refine JO.gt (g := 37) rfl rfl rfl ?_
  refine JO.v (Yv.as (v' := .agg (⟨5#64, 3⟩ : It).cells.toArray) (Yv.build bld_46 rfl rfl) rfl) (by decide) ?_
  refine JO.gt (g := 37) rfl rfl rfl ?_
  refine JO.lit Try.underlying39 info_46 rfl rfl (by intro v hv; simp at hv; rcases hv with rfl | rfl <;> rfl) (by decide) (by decide) (by unfold maxLen; omega) (by decide) fun v41 => ?_
  refine JO.gt (g := 37) rfl rfl rfl ?_
  refine JO.callB (f13_spec vo v41 [⟨5#64, 1⟩, ⟨5#64, 3⟩] [⟨5#64, 1⟩, ⟨5#64, 3⟩]) body_13 rfl (by repeat (first | exact Picks.nil _ | apply Picks.cons | exact Pull.here _ _ | apply Pull.there)) (by repeat (first | exact Lends.nil _ | apply Lends.cons | exact Lend.same _ _ | exact Lend.row _ _ _ _ _ _ (by decide) | apply Lend.there)) (by rintro _ _ _ ⟨_, h, _⟩; exact h) (by decide) ?_
  rintro _ _ ⟨_, ⟨rfl, _, rfl⟩, hH⟩
  simp only [List.cons_append, List.nil_append] at hH; subst hH
  rw [decide_eq_true rfl]
  refine JO.v (Yv.pick1 rfl rfl rfl) (by decide) ?_
  refine JO.v (Yv.move rfl) (by decide) ?_
  refine JO.gt (g := 44) rfl rfl rfl ?_
  refine JO.v (Yv.move rfl) (by decide) ?_
  refine JO.gt (g := 44) rfl rfl rfl ?_
  refine JO.v (Yv.as (v' := .bool true) (Yv.bin rfl rfl BinR.eql_i) (congrArg Value.bool (by decide +kernel))) (by decide) ?_
  refine JO.v (Yv.pick1 rfl rfl rfl) (by decide) ?_
  refine JO.v (Yv.move rfl) (by decide) ?_
  refine JO.gt (g := 48) rfl rfl rfl ?_
  refine JO.v (Yv.move rfl) (by decide) ?_
  refine JO.gt (g := 48) rfl rfl rfl ?_
  refine JO.v (Yv.as (v' := .bool true) (Yv.bin rfl rfl BinR.eql_i) (congrArg Value.bool (by decide +kernel))) (by decide) ?_
  refine JO.v (Yv.pick1 rfl rfl rfl) (by decide) ?_
  refine JO.v (Yv.assign rfl) (by decide) ?_
  refine JO.nil ?_
  refine JQ.then_normal ?_
  refine JC.ret ?_
  exact JQ.done (.inr rfl) (Γ' := []) (H' := []) (res1 rfl (RV.tmp rfl)) (Subs.sub (by repeat (first | exact Subs.nil _ | apply Subs.cons | exact List.Mem.head _ | refine List.Mem.tail _ ?_))) (Picks.perm (by repeat (first | exact Picks.nil _ | apply Picks.cons | exact Pull.here _ _ | apply Pull.there))) ⟨rfl, rfl, rfl⟩
end Go.Proofs.Ytmefjbmaghjpfaa
