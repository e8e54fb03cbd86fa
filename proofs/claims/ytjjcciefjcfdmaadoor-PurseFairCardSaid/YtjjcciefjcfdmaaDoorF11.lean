/- Walk: PurseFair. -/
import Derived.Test.YtjjcciefjcfdmaaDoorQ12
import Derived.Test.YtjjcciefjcfdmaaDoorF8
namespace Go.Proofs.YtjjcciefjcfdmaaDoor
open Go.RowKit
set_option maxRecDepth 100000
set_option linter.unusedVariables false
set_option linter.unusedSimpArgs false
set_option maxHeartbeats 1000000 in
theorem f3_spec (u : Value) (ws : List W64) (pot : W64) :
    Spec Tryd.prog 3 #[u, (u64 pot)] [Res.var 0 ((wd 9223372036854775808).map u64), Res.rd u ws.length 1 (ws.map u64)] []
      (fun r Γ' H' => r = (.bool true) ∧ Γ' = [] ∧ H' = []) := by
  refine Spec.of_args Tryd.func3 rfl Tryd.ntmps3 (by simp) fun w => ?_
  refine JC.know (φ := ws.length ≤ 9223372036854775807) (fun w hs => by obtain ⟨_, _, _, _, _, _, h⟩ := hs.rdForm (.tail _ (.head _)); unfold maxLen at h; omega) fun hll => ?_
  have hfl := fairL_len ws pot
  have hfw := fairW_len ws
  have hfr := fair_len ws pot
  refine JC.seq ?_
  refine JC.region ?_
  refine JO.v (Yv.assign rfl) (by decide) ?_
  refine JO.nil ?_
  refine JQ.then_normal ?_
  refine JC.seq ?_
  refine JC.region ?_
  refine JO.callB f8_spec body_8 rfl (by repeat (first | exact Picks.nil _ | apply Picks.cons | exact Pull.here _ _ | apply Pull.there)) (by repeat (first | exact Lends.nil _ | apply Lends.cons | exact Lend.same _ _ | exact Lend.row _ _ _ _ _ _ (by decide) | apply Lend.there)) (by rintro _ _ _ ⟨_, h, _⟩; exact h) (by decide) ?_
  rintro _ _ ⟨_, ⟨rfl, _, rfl⟩, hH⟩
  simp only [List.cons_append, List.nil_append] at hH; subst hH
  refine JO.v (Yv.assign rfl) (by decide) ?_
  refine JO.nil ?_
  refine JQ.then_normal ?_
  refine JC.seq ?_
  refine JC.seq ?_
  refine JC.region ?_
  refine JO.v (Yv.move rfl) (by decide) ?_
  first | refine JO.v (Yv.len_s Tryd.underlying22 rfl) (by decide) ?_ | refine JO.v (Yv.lenRd Tryd.underlying22 rfl (by repeat (first | exact Lend.same _ _ | exact Lend.row _ _ _ _ _ _ (by decide) | apply Lend.there))) (by decide) ?_
  refine JO.v (Yv.bin rfl rfl BinR.gtr_i) (by decide) ?_
  refine JO.v (Yv.move rfl) (by decide) ?_
  refine JO.join 3 21 (.bool (decide ((ws.length : Int) > 30 ∨ pot.toNat ≥ 4611686018427387904))) ?_ ?_
  · skip
    refine JO.gsplit (g := 17) rfl (fun hg8 => ?_) (fun hg8 => ?_)
    · have hg8' := hg8
      try simp only [decide_eq_true_eq, decide_eq_false_iff_not, Bool.not_eq_true', Bool.not_eq_false', ne_eq, Decidable.not_not, Bool.not_eq_true, Bool.and_eq_true, Bool.or_eq_true, BitVec.reduceToNat] at hg8'
      refine JO.gf (g := 18) rfl rfl hg8 (by decide) ?_
      refine JO.gf (g := 18) rfl rfl hg8 (by decide) ?_
      refine JO.v (Yv.pick1 rfl hg8 rfl) (by decide) ?_
      refine JO.nil ?_
      refine JQ.head () (by first | (refine ⟨by first | rfl | (simp [*]; done) | (show some _ = some _; simp [*]; done), ?_⟩; repeat (first | exact trivial | refine ⟨rfl, ?_⟩))) (Subs.sub (by repeat (first | exact Subs.nil _ | apply Subs.cons | exact List.Mem.head _ | refine List.Mem.tail _ ?_))) (Picks.perm (by repeat (first | exact Picks.nil _ | apply Picks.cons | exact Pull.here _ _ | apply Pull.there))) ?_
      trivial
    · have hg8' := hg8
      try simp only [decide_eq_true_eq, decide_eq_false_iff_not, Bool.not_eq_true', Bool.not_eq_false', ne_eq, Decidable.not_not, Bool.not_eq_true, Bool.and_eq_true, Bool.or_eq_true, BitVec.reduceToNat] at hg8'
      refine JO.gt (g := 18) rfl rfl hg8 ?_
      refine JO.v (Yv.move rfl) (by decide) ?_
      refine JO.gt (g := 18) rfl rfl hg8 ?_
      refine JO.v (Yv.bin rfl rfl (BinR.geq_u64 (b := 4611686018427387904#64))) (by decide) ?_
      refine JO.v (Yv.pick0 rfl hg8 rfl) (by decide) ?_
      refine JO.nil ?_
      refine JQ.head () (by first | (refine ⟨by first | rfl | (simp [*]; done) | (show some _ = some _; simp [*]; done), ?_⟩; repeat (first | exact trivial | refine ⟨rfl, ?_⟩))) (Subs.sub (by repeat (first | exact Subs.nil _ | apply Subs.cons | exact List.Mem.head _ | refine List.Mem.tail _ ?_))) (Picks.perm (by repeat (first | exact Picks.nil _ | apply Picks.cons | exact Pull.here _ _ | apply Pull.there))) ?_
      trivial
  · skip
    refine JO.nil ?_
    refine JQ.then_normal ?_
    refine JC.cond rfl (fun hc1 => ?_) (fun hc1 => ?_)
    · try simp only [decide_eq_true_eq, decide_eq_false_iff_not, Bool.not_eq_true', Bool.not_eq_false', ne_eq, Decidable.not_not, Bool.not_eq_true, Bool.and_eq_true, Bool.or_eq_true, BitVec.reduceToNat] at hc1
      skip
      refine JC.seq ?_
      refine JC.region ?_
      refine JO.v (Yv.move rfl) (by decide) ?_
      refine JO.v (Yv.assign rfl) (by decide) ?_
      refine JO.nil ?_
      refine JQ.then_normal ?_
      refine JC.ret ?_
      refine JQ.then_ret ?_
      exact JQ.done (.inr rfl) (Γ' := []) (H' := []) (res1 rfl (RV.tmp rfl)) (Subs.sub (by repeat (first | exact Subs.nil _ | apply Subs.cons | exact List.Mem.head _ | refine List.Mem.tail _ ?_))) (Picks.perm (by repeat (first | exact Picks.nil _ | apply Picks.cons | exact Pull.here _ _ | apply Pull.there))) ⟨rfl, rfl, rfl⟩
    · try simp only [decide_eq_true_eq, decide_eq_false_iff_not, Bool.not_eq_true', Bool.not_eq_false', ne_eq, Decidable.not_not, Bool.not_eq_true, Bool.and_eq_true, Bool.or_eq_true, BitVec.reduceToNat] at hc1
      have hn : ws.length ≤ 30 := by omega
      have hp : pot.toNat < 4611686018427387904 := by omega
      refine JC.skip ?_
      refine JQ.then_normal ?_
      refine JC.seq ?_
      refine JC.region ?_
      refine JO.v (Yv.move rfl) (by decide) ?_
      first | refine JO.v (Yv.len_s Tryd.underlying22 rfl) (by decide) ?_ | refine JO.v (Yv.lenRd Tryd.underlying22 rfl (by repeat (first | exact Lend.same _ _ | exact Lend.row _ _ _ _ _ _ (by decide) | apply Lend.there))) (by decide) ?_
      refine JO.v (Yv.assign rfl) (by decide) ?_
      refine JO.nil ?_
      refine JQ.then_normal ?_
      refine JC.seq ?_
      refine JC.region ?_
      refine JO.v (Yv.move rfl) (by decide) ?_
      refine JO.make (z := _) (bytes := _) ws.length Tryd.underlying22 info_23 rfl rfl rfl (by first | decide | (simp; done) | (simp; omega) | omega | (simp [*]; omega)) (by unfold maxLen; omega) (by decide) fun v27 => ?_
      refine JO.v (Yv.move rfl) (by decide) ?_
      refine JO.lit1 Tryd.underlying22 info_23 rfl rfl (by simp) (by decide) (by decide) (by decide) fun v29 => ?_
      refine JO.append Tryd.underlying22 info_23 rfl (by decide) rfl rfl (by repeat (first | exact Pull.here _ _ | apply Pull.there)) (by first | exact Src.nil | exact Src.rd (by repeat (first | exact Lend.same _ _ | exact Lend.row _ _ _ _ _ _ (by decide) | apply Lend.there)) (by decide) | exact Src.cells (by repeat (first | exact List.Mem.head _ | refine List.Mem.tail _ ?_)) (by simp)) (by first | (simp; done) | exact one_sing rfl | exact one_map (fun _ => rfl) | exact one_piece (one_map (fun _ => rfl)) | exact one_tab (fun _ => rfl) | exact one_tab (fun _ => by split <;> rfl)) (by unfold maxLen; omega) (by omega) (by decide) fun v30 => ?_
      rw [show ws.length + 2 = (fairL ws pot).length from hfl.symm, show List.replicate ws.length (Value.int .u64 0) ++ [u64 pot, Value.int .u64 0] = (fairL ws pot).map u64 from by rw [List.map_append, List.map_replicate]; rfl]
      refine JO.callB (f9a_spec v30 (fairL ws pot) (fair_new hn hp)) body_9 rfl (by repeat (first | exact Picks.nil _ | apply Picks.cons | exact Pull.here _ _ | apply Pull.there)) (by repeat (first | exact Lends.nil _ | apply Lends.cons | exact Lend.same _ _ | exact Lend.row _ _ _ _ _ _ (by decide) | apply Lend.there)) (by rintro _ _ _ ⟨_, _, _, h, _⟩; exact h) (by decide) ?_
      rintro _ _ ⟨_, ⟨p, v, rfl, _, rfl⟩, hH⟩
      simp only [List.cons_append, List.nil_append] at hH; subst hH
      refine JO.v (Yv.move rfl) (by decide) ?_
      refine JO.v (Yv.as (v' := ptr p 0) (Yv.extract rfl rfl) rfl) (by decide) ?_
      refine JO.v (Yv.as (v' := it 0) (Yv.extract rfl rfl) rfl) (by decide) ?_
      refine JO.v (Yv.assign rfl) (by decide) ?_
      refine JO.v (Yv.assign rfl) (by decide) ?_
      refine JO.nil ?_
      refine JQ.then_normal ?_
      refine JC.seq ?_
      refine JC.seq ?_
      refine JC.region ?_
      refine JO.v (Yv.move rfl) (by decide) ?_
      refine JO.v (Yv.as (v' := .bool false) (Yv.bin rfl rfl (BinR.eql_p Tryd.underlying25)) rfl) (by decide) ?_
      refine JO.v (Yv.move rfl) (by decide) ?_
      refine JO.join 3 39 (.bool false) ?_ ?_
      · skip
        refine JO.gt (g := 36) rfl rfl rfl ?_
        refine JO.v (Yv.move rfl) (by decide) ?_
        refine JO.gt (g := 36) rfl rfl rfl ?_
        refine JO.v (Yv.as (v' := .bool false) (Yv.bin rfl rfl BinR.neq_i) rfl) (by decide) ?_
        refine JO.v (Yv.pick0 rfl rfl rfl) (by decide) ?_
        refine JO.nil ?_
        refine JQ.head () (by first | (refine ⟨by first | rfl | (simp [*]; done) | (show some _ = some _; simp [*]; done), ?_⟩; repeat (first | exact trivial | refine ⟨rfl, ?_⟩))) (Subs.sub (by repeat (first | exact Subs.nil _ | apply Subs.cons | exact List.Mem.head _ | refine List.Mem.tail _ ?_))) (Picks.perm (by repeat (first | exact Picks.nil _ | apply Picks.cons | exact Pull.here _ _ | apply Pull.there))) ?_
        trivial
      · skip
        refine JO.nil ?_
        refine JQ.then_normal ?_
        refine JC.cond rfl (fun hc2 => ?_) (fun hc2 => ?_)
        · try simp only [decide_eq_true_eq, decide_eq_false_iff_not, Bool.not_eq_true', Bool.not_eq_false', ne_eq, Decidable.not_not, Bool.not_eq_true, Bool.and_eq_true, Bool.or_eq_true, BitVec.reduceToNat] at hc2
          exact absurd hc2 (by decide)
        · try simp only [decide_eq_true_eq, decide_eq_false_iff_not, Bool.not_eq_true', Bool.not_eq_false', ne_eq, Decidable.not_not, Bool.not_eq_true, Bool.and_eq_true, Bool.or_eq_true, BitVec.reduceToNat] at hc2
          refine JC.skip ?_
          refine JQ.then_normal ?_
          refine JC.seq ?_
          refine JC.region ?_
          refine JO.v (Yv.move rfl) (by decide) ?_
          refine JO.v (Yv.move rfl) (by decide) ?_
          refine JO.v (Yv.move rfl) (by decide) ?_
          refine JO.v (Yv.as (v' := it ((ws.length + 1 : Nat) : Int)) (Yv.bin rfl rfl (BinR.add_i (by first | (constructor <;> omega) | (constructor <;> simp <;> omega)))) (congrArg it (by omega))) (by decide) ?_
          refine JO.buildEmpty Tryd.underlying22 sz_23 (by decide) fun v44 => ?_
          refine JO.v (Yv.move rfl) (by decide) ?_
          refine JO.append Tryd.underlying22 info_23 rfl (by decide) rfl rfl (by repeat (first | exact Pull.here _ _ | apply Pull.there)) (by first | exact Src.nil | exact Src.rd (by repeat (first | exact Lend.same _ _ | exact Lend.row _ _ _ _ _ _ (by decide) | apply Lend.there)) (by decide) | exact Src.cells (by repeat (first | exact List.Mem.head _ | refine List.Mem.tail _ ?_)) (by simp)) (by first | (simp; done) | exact one_sing rfl | exact one_map (fun _ => rfl) | exact one_piece (one_map (fun _ => rfl)) | exact one_tab (fun _ => rfl) | exact one_tab (fun _ => by split <;> rfl)) (by unfold maxLen; omega) (by omega) (by decide) fun v46 => ?_
          simp only [Nat.zero_add, List.nil_append]
          refine JO.lit1 Tryd.underlying22 info_23 rfl rfl (by simp) (by decide) (by decide) (by decide) fun v47 => ?_
          refine JO.append Tryd.underlying22 info_23 rfl (by decide) rfl rfl (by repeat (first | exact Pull.here _ _ | apply Pull.there)) (by first | exact Src.nil | exact Src.rd (by repeat (first | exact Lend.same _ _ | exact Lend.row _ _ _ _ _ _ (by decide) | apply Lend.there)) (by decide) | exact Src.cells (by repeat (first | exact List.Mem.head _ | refine List.Mem.tail _ ?_)) (by simp)) (by first | (simp; done) | exact one_sing rfl | exact one_map (fun _ => rfl) | exact one_piece (one_map (fun _ => rfl)) | exact one_tab (fun _ => rfl) | exact one_tab (fun _ => by split <;> rfl)) (by unfold maxLen; omega) (by omega) (by decide) fun v48 => ?_
          rw [show ws.length + 2 = (fairW ws).length from hfw.symm, show ws.map u64 ++ [Value.int .u64 0, Value.int .u64 0] = (fairW ws).map u64 from by rw [List.map_append]; rfl]
          refine JO.callB (f10_spec p v v48 (fairL ws pot) (fairW ws) (ws.length : Int) ((ws.length + 1 : Nat) : Int)) body_10 rfl (by repeat (first | exact Picks.nil _ | apply Picks.cons | exact Pull.here _ _ | apply Pull.there)) (by repeat (first | exact Lends.nil _ | apply Lends.cons | exact Lend.same _ _ | exact Lend.row _ _ _ _ _ _ (by decide) | apply Lend.there)) (by rintro _ _ _ ⟨_, h, _⟩; exact h) (by decide) ?_
          rintro _ _ ⟨_, ⟨rfl, _, rfl⟩, hH⟩
          simp only [List.cons_append, List.nil_append] at hH; subst hH
          rw [fairR_def]
          refine JO.v (Yv.assign rfl) (by decide) ?_
          refine JO.nil ?_
          refine JQ.then_normal ?_
          refine JC.seq ?_
          refine JC.region ?_
          refine JO.v (Yv.move rfl) (by decide) ?_
          refine JO.callB (f11_spec p v (fairR ws pot) (by omega)) body_11 rfl (by repeat (first | exact Picks.nil _ | apply Picks.cons | exact Pull.here _ _ | apply Pull.there)) (by repeat (first | exact Lends.nil _ | apply Lends.cons | exact Lend.same _ _ | exact Lend.row _ _ _ _ _ _ (by decide) | apply Lend.there)) (by rintro _ _ _ ⟨h, _⟩; exact h) (by decide) ?_
          rintro v51 _ ⟨_, ⟨_, rfl⟩, hH⟩
          simp only [List.cons_append, List.nil_append] at hH; subst hH
          refine JO.v (Yv.assign rfl) (by decide) ?_
          refine JO.nil ?_
          refine JQ.then_normal ?_
          refine JC.seq ?_
          refine JC.seq ?_
          refine JC.region ?_
          refine JO.v (Yv.move rfl) (by decide) ?_
          refine JO.v (Yv.as (v' := .bool false) (Yv.bin rfl rfl BinR.neq_i) (by rw [fair_E]; rfl)) (by decide) ?_
          refine JO.v (Yv.move rfl) (by decide) ?_
          refine JO.join 13 67 (.bool false) ?_ ?_
          · skip
            refine JO.gsplit (g := 53) rfl (fun hg51 => ?_) (fun hg51 => ?_)
            · have hg51' := hg51
              try simp only [decide_eq_true_eq, decide_eq_false_iff_not, Bool.not_eq_true', Bool.not_eq_false', ne_eq, Decidable.not_not, Bool.not_eq_true, Bool.and_eq_true, Bool.or_eq_true, BitVec.reduceToNat] at hg51'
              refine JO.gf (g := 54) rfl rfl hg51 (by decide) ?_
              refine JO.gf (g := 54) rfl rfl hg51 (by decide) ?_
              refine JO.gf (g := 54) rfl rfl hg51 (by decide) ?_
              refine JO.gf (g := 54) rfl rfl hg51 (by decide) ?_
              refine JO.gf (g := 54) rfl rfl hg51 (by decide) ?_
              refine JO.v (Yv.pick1 rfl hg51 rfl) (by decide) ?_
              refine JO.v (Yv.move rfl) (by decide) ?_
              refine JO.gf (g := 61) rfl rfl rfl (by decide) ?_
              refine JO.gf (g := 61) rfl rfl rfl (by decide) ?_
              refine JO.gf (g := 61) rfl rfl rfl (by decide) ?_
              refine JO.gf (g := 61) rfl rfl rfl (by decide) ?_
              refine JO.gf (g := 61) rfl rfl rfl (by decide) ?_
              refine JO.v (Yv.pick1 rfl rfl rfl) (by decide) ?_
              refine JO.nil ?_
              refine JQ.head () (by first | (refine ⟨by first | rfl | (simp [*]; done) | (show some _ = some _; simp [*]; done), ?_⟩; repeat (first | exact trivial | refine ⟨rfl, ?_⟩))) (Subs.sub (by repeat (first | exact Subs.nil _ | apply Subs.cons | exact List.Mem.head _ | refine List.Mem.tail _ ?_))) (Picks.perm (by repeat (first | exact Picks.nil _ | apply Picks.cons | exact Pull.here _ _ | apply Pull.there))) ?_
              trivial
            · have hg51' := hg51
              try simp only [decide_eq_true_eq, decide_eq_false_iff_not, Bool.not_eq_true', Bool.not_eq_false', ne_eq, Decidable.not_not, Bool.not_eq_true, Bool.and_eq_true, Bool.or_eq_true, BitVec.reduceToNat] at hg51'
              refine JO.gt (g := 54) rfl rfl hg51 ?_
              refine JO.v (Yv.move rfl) (by decide) ?_
              refine JO.gt (g := 54) rfl rfl hg51 ?_
              first | refine JO.v (Yv.len_s Tryd.underlying22 rfl) (by decide) ?_ | refine JO.v (Yv.lenRd Tryd.underlying22 rfl (by repeat (first | exact Lend.same _ _ | exact Lend.row _ _ _ _ _ _ (by decide) | apply Lend.there))) (by decide) ?_
              refine JO.gt (g := 54) rfl rfl hg51 ?_
              refine JO.v (Yv.move rfl) (by decide) ?_
              refine JO.gt (g := 54) rfl rfl hg51 ?_
              refine JO.v (Yv.bin rfl rfl (BinR.add_i (by first | (constructor <;> omega) | (constructor <;> simp <;> omega)))) (by decide) ?_
              refine JO.gt (g := 54) rfl rfl hg51 ?_
              refine JO.v (Yv.as (v' := .bool false) (Yv.bin rfl rfl BinR.neq_i) (congrArg Value.bool (by rw [hfr]; simp))) (by decide) ?_
              refine JO.v (Yv.pick0 rfl hg51 rfl) (by decide) ?_
              refine JO.v (Yv.move rfl) (by decide) ?_
              refine JO.gt (g := 61) rfl rfl rfl ?_
              refine JO.v (Yv.move rfl) (by decide) ?_
              refine JO.gt (g := 61) rfl rfl rfl ?_
              refine JO.v (Yv.move rfl) (by decide) ?_
              refine JO.gt (g := 61) rfl rfl rfl ?_
              first | refine JO.v (Yv.indexRow1 Tryd.underlying22 sz_23 rfl rfl (by repeat (first | exact List.Mem.head _ | refine List.Mem.tail _ ?_)) (by first | exact ltb rfl | (simp; done) | (simp; omega) | omega | (simp [*]; omega))) (by decide) ?_ | refine JO.v (Yv.indexRd1 Tryd.underlying22 sz_23 rfl rfl (by repeat (first | exact Lend.same _ _ | exact Lend.row _ _ _ _ _ _ (by decide) | apply Lend.there)) (by first | exact ltb rfl | (simp; done) | (simp; omega) | omega | (simp [*]; omega))) (by decide) ?_
              refine JO.gt (g := 61) rfl rfl rfl ?_
              refine JO.v (Yv.load1 one_23 rfl (by first | exact Kn.row (by repeat (first | exact List.Mem.head _ | refine List.Mem.tail _ ?_)) (by exact gm (d := 0) (by omega)) | exact Kn.rd (by repeat (first | exact Lend.same _ _ | exact Lend.row _ _ _ _ _ _ (by decide) | apply Lend.there)) (by exact gm (d := 0) (by omega)))) (by decide) ?_
              refine JO.gt (g := 61) rfl rfl rfl ?_
              refine JO.v (Yv.as (v' := .bool false) (Yv.bin rfl rfl (BinR.neq_u64 (b := 0#64))) (by rw [fair_n]; rfl)) (by decide) ?_
              refine JO.v (Yv.pick0 rfl rfl rfl) (by decide) ?_
              refine JO.nil ?_
              refine JQ.head () (by first | (refine ⟨by first | rfl | (simp [*]; done) | (show some _ = some _; simp [*]; done), ?_⟩; repeat (first | exact trivial | refine ⟨rfl, ?_⟩))) (Subs.sub (by repeat (first | exact Subs.nil _ | apply Subs.cons | exact List.Mem.head _ | refine List.Mem.tail _ ?_))) (Picks.perm (by repeat (first | exact Picks.nil _ | apply Picks.cons | exact Pull.here _ _ | apply Pull.there))) ?_
              trivial
          · skip
            refine JO.nil ?_
            refine JQ.then_normal ?_
            refine JC.cond rfl (fun hc3 => ?_) (fun hc3 => ?_)
            · try simp only [decide_eq_true_eq, decide_eq_false_iff_not, Bool.not_eq_true', Bool.not_eq_false', ne_eq, Decidable.not_not, Bool.not_eq_true, Bool.and_eq_true, Bool.or_eq_true, BitVec.reduceToNat] at hc3
              exact absurd hc3 (by decide)
            · try simp only [decide_eq_true_eq, decide_eq_false_iff_not, Bool.not_eq_true', Bool.not_eq_false', ne_eq, Decidable.not_not, Bool.not_eq_true, Bool.and_eq_true, Bool.or_eq_true, BitVec.reduceToNat] at hc3
              refine JC.skip ?_
              refine JQ.then_normal ?_
              refine JC.seq ?_
              refine JC.region ?_
              refine JO.v (Yv.as (v' := (.bool (noneT ws 0))) (Yv.assign rfl) (by rw [noneT_0])) (by decide) ?_
              refine JO.nil ?_
              refine JQ.then_normal ?_
              refine JC.seq ?_
              refine JC.seq ?_
              refine JC.region ?_
              refine JO.v (Yv.as (v' := it ((0 : Nat) : Int)) (Yv.assign rfl) rfl) (by decide) ?_
              refine JO.nil ?_
              refine JQ.then_normal ?_
              refine JC.block ?_
              refine JC.loop (ι := Nat) (fun x => x ≤ ws.length) (fun x => [(0, u), (1, u64 pot), (5, .bool true), (6, it (ws.length : Int)), (10, v51), (11, .bool (noneT ws x)), (12, it (x : Int))]) (fun x => [Res.var 0 ((wd 9223372036854775808).map u64), Res.rd u ws.length 1 (ws.map u64)]) (fun x => [Res.row v51 (fairR ws pot).length 23 1 ((fairR ws pot).map u64)]) (fun x => ws.length - x) 0 (by repeat (first | exact trivial | refine ⟨by first | rfl | (simp; done), ?_⟩)) (Subs.sub (by repeat (first | exact Subs.nil _ | apply Subs.cons | exact List.Mem.head _ | refine List.Mem.tail _ ?_))) (Picks.perm (by repeat (first | exact Picks.nil _ | apply Picks.cons | exact Pull.here _ _ | apply Pull.there))) ?_ (fun x hx => ?_)
              · exact Nat.zero_le _
              revert hx
              generalize x = i
              intro hx
              refine JC.seq ?_
              refine JC.seq ?_
              refine JC.region ?_
              refine JO.v (Yv.move rfl) (by decide) ?_
              refine JO.v (Yv.move rfl) (by decide) ?_
              refine JO.v (Yv.bin rfl rfl BinR.lss_i) (by decide) ?_
              refine JO.nil ?_
              refine JQ.then_normal ?_
              refine JC.cond rfl (fun hc4 => ?_) (fun hc4 => ?_)
              · try simp only [decide_eq_true_eq, decide_eq_false_iff_not, Bool.not_eq_true', Bool.not_eq_false', ne_eq, Decidable.not_not, Bool.not_eq_true, Bool.and_eq_true, Bool.or_eq_true, BitVec.reduceToNat] at hc4
                have hns := noneT_succ ws i
                refine JC.skip ?_
                refine JQ.then_normal ?_
                refine JC.seq ?_
                refine JC.block ?_
                refine JC.seq ?_
                refine JC.region ?_
                refine JO.v (Yv.move rfl) (by decide) ?_
                refine JO.v (Yv.move rfl) (by decide) ?_
                refine JO.join 6 80 (.bool (noneT ws (i + 1))) ?_ ?_
                · skip
                  refine JO.gsplit (g := 11) rfl (fun hg72 => ?_) (fun hg72 => ?_)
                  · have hg72' := hg72
                    try simp only [decide_eq_true_eq, decide_eq_false_iff_not, Bool.not_eq_true', Bool.not_eq_false', ne_eq, Decidable.not_not, Bool.not_eq_true, Bool.and_eq_true, Bool.or_eq_true, BitVec.reduceToNat] at hg72'
                    refine JO.gt (g := 74) rfl rfl hg72 ?_
                    refine JO.v (Yv.move rfl) (by decide) ?_
                    refine JO.gt (g := 74) rfl rfl hg72 ?_
                    refine JO.v (Yv.move rfl) (by decide) ?_
                    refine JO.gt (g := 74) rfl rfl hg72 ?_
                    first | refine JO.v (Yv.indexRow1 Tryd.underlying22 sz_23 rfl rfl (by repeat (first | exact List.Mem.head _ | refine List.Mem.tail _ ?_)) (by first | exact ltb rfl | (simp; done) | (simp; omega) | omega | (simp [*]; omega))) (by decide) ?_ | refine JO.v (Yv.indexRd1 Tryd.underlying22 sz_23 rfl rfl (by repeat (first | exact Lend.same _ _ | exact Lend.row _ _ _ _ _ _ (by decide) | apply Lend.there)) (by first | exact ltb rfl | (simp; done) | (simp; omega) | omega | (simp [*]; omega))) (by decide) ?_
                    refine JO.gt (g := 74) rfl rfl hg72 ?_
                    refine JO.v (Yv.load1 one_23 rfl (by first | exact Kn.row (by repeat (first | exact List.Mem.head _ | refine List.Mem.tail _ ?_)) (by exact gm (d := 0) (by omega)) | exact Kn.rd (by repeat (first | exact Lend.same _ _ | exact Lend.row _ _ _ _ _ _ (by decide) | apply Lend.there)) (by exact gm (d := 0) (by omega)))) (by decide) ?_
                    refine JO.gt (g := 74) rfl rfl hg72 ?_
                    refine JO.v (Yv.as (v' := .bool (noneT ws (i + 1))) (Yv.bin rfl rfl (BinR.eql_u64 (b := 0#64))) (congrArg Value.bool (by rw [hns, hg72]; simp))) (by decide) ?_
                    refine JO.v (Yv.pick1 rfl hg72 rfl) (by decide) ?_
                    refine JO.nil ?_
                    refine JQ.head () (by first | (refine ⟨by first | rfl | (simp [*]; done) | (show some _ = some _; simp [*]; done), ?_⟩; repeat (first | exact trivial | refine ⟨rfl, ?_⟩))) (Subs.sub (by repeat (first | exact Subs.nil _ | apply Subs.cons | exact List.Mem.head _ | refine List.Mem.tail _ ?_))) (Picks.perm (by repeat (first | exact Picks.nil _ | apply Picks.cons | exact Pull.here _ _ | apply Pull.there))) ?_
                    trivial
                  · have hg72' := hg72
                    try simp only [decide_eq_true_eq, decide_eq_false_iff_not, Bool.not_eq_true', Bool.not_eq_false', ne_eq, Decidable.not_not, Bool.not_eq_true, Bool.and_eq_true, Bool.or_eq_true, BitVec.reduceToNat] at hg72'
                    refine JO.gf (g := 74) rfl rfl hg72 (by decide) ?_
                    refine JO.gf (g := 74) rfl rfl hg72 (by decide) ?_
                    refine JO.gf (g := 74) rfl rfl hg72 (by decide) ?_
                    refine JO.gf (g := 74) rfl rfl hg72 (by decide) ?_
                    refine JO.gf (g := 74) rfl rfl hg72 (by decide) ?_
                    refine JO.v (Yv.pick0 rfl hg72 rfl) (by decide) ?_
                    refine JO.nil ?_
                    refine JQ.head () (by first | (refine ⟨by first | rfl | (simp [*]; done) | (show some _ = some _; simp [*]; done), ?_⟩; repeat (first | exact trivial | refine ⟨rfl, ?_⟩))) (Subs.sub (by repeat (first | exact Subs.nil _ | apply Subs.cons | exact List.Mem.head _ | refine List.Mem.tail _ ?_))) (Picks.perm (by repeat (first | exact Picks.nil _ | apply Picks.cons | exact Pull.here _ _ | apply Pull.there))) ?_
                    trivial
                · skip
                  refine JO.v (Yv.assign rfl) (by decide) ?_
                  refine JO.nil ?_
                  refine JQ.then_normal ?_
                  refine JC.seq ?_
                  refine JC.seq ?_
                  refine JC.region ?_
                  refine JO.v (Yv.move rfl) (by decide) ?_
                  refine JO.v (Yv.move rfl) (by decide) ?_
                  first | refine JO.v (Yv.indexRow1 Tryd.underlying22 sz_23 rfl rfl (by repeat (first | exact List.Mem.head _ | refine List.Mem.tail _ ?_)) (by first | exact ltb rfl | (simp; done) | (simp; omega) | omega | (simp [*]; omega))) (by decide) ?_ | refine JO.v (Yv.indexRd1 Tryd.underlying22 sz_23 rfl rfl (by repeat (first | exact Lend.same _ _ | exact Lend.row _ _ _ _ _ _ (by decide) | apply Lend.there)) (by first | exact ltb rfl | (simp; done) | (simp; omega) | omega | (simp [*]; omega))) (by decide) ?_
                  refine JO.v (Yv.load1 one_23 rfl (by first | exact Kn.row (by repeat (first | exact List.Mem.head _ | refine List.Mem.tail _ ?_)) (by exact gm (d := 0) (by omega)) | exact Kn.rd (by repeat (first | exact Lend.same _ _ | exact Lend.row _ _ _ _ _ _ (by decide) | apply Lend.there)) (by exact gm (d := 0) (by omega)))) (by decide) ?_
                  refine JO.v (Yv.bin rfl rfl (BinR.eql_u64 (b := 0#64))) (by decide) ?_
                  refine JO.v (Yv.move rfl) (by decide) ?_
                  refine JO.env [(0, u), (1, u64 pot), (5, .bool true), (6, it (ws.length : Int)), (10, v51), (11, .bool (noneT ws (i + 1))), (12, it (i : Int)), (85, .bool (decide (ws.getD i 0 = 0#64))), (86, .bool (decide (ws.getD i 0 = 0#64)))] (by repeat (first | exact trivial | refine ⟨by first | rfl | (simp; done), ?_⟩)) ?_
                  refine JO.join 6 92 (.bool false) ?_ ?_
                  · skip
                    refine JO.gsplit (g := 85) rfl (fun hg85 => ?_) (fun hg85 => ?_)
                    · have hg85' := hg85
                      try simp only [decide_eq_true_eq, decide_eq_false_iff_not, Bool.not_eq_true', Bool.not_eq_false', ne_eq, Decidable.not_not, Bool.not_eq_true, Bool.and_eq_true, Bool.or_eq_true, BitVec.reduceToNat] at hg85'
                      refine JO.gt (g := 86) rfl rfl hg85 ?_
                      refine JO.v (Yv.move rfl) (by decide) ?_
                      refine JO.gt (g := 86) rfl rfl hg85 ?_
                      refine JO.v (Yv.move rfl) (by decide) ?_
                      refine JO.gt (g := 86) rfl rfl hg85 ?_
                      first | refine JO.v (Yv.indexRow1 Tryd.underlying22 sz_23 rfl rfl (by repeat (first | exact List.Mem.head _ | refine List.Mem.tail _ ?_)) (by first | exact ltb rfl | (simp; done) | (simp; omega) | omega | (simp [*]; omega))) (by decide) ?_ | refine JO.v (Yv.indexRd1 Tryd.underlying22 sz_23 rfl rfl (by repeat (first | exact Lend.same _ _ | exact Lend.row _ _ _ _ _ _ (by decide) | apply Lend.there)) (by first | exact ltb rfl | (simp; done) | (simp; omega) | omega | (simp [*]; omega))) (by decide) ?_
                      refine JO.gt (g := 86) rfl rfl hg85 ?_
                      refine JO.v (Yv.load1 one_23 rfl (by first | exact Kn.row (by repeat (first | exact List.Mem.head _ | refine List.Mem.tail _ ?_)) (by exact gm (d := 0) (by omega)) | exact Kn.rd (by repeat (first | exact Lend.same _ _ | exact Lend.row _ _ _ _ _ _ (by decide) | apply Lend.there)) (by exact gm (d := 0) (by omega)))) (by decide) ?_
                      refine JO.gt (g := 86) rfl rfl hg85 ?_
                      refine JO.v (Yv.as (v' := .bool false) (Yv.bin rfl rfl (BinR.neq_u64 (b := 0#64))) (by rw [fair_zero hn (by omega) hg85']; rfl)) (by decide) ?_
                      refine JO.v (Yv.pick1 rfl hg85 rfl) (by decide) ?_
                      refine JO.nil ?_
                      refine JQ.head () (by first | (refine ⟨by first | rfl | (simp [*]; done) | (show some _ = some _; simp [*]; done), ?_⟩; repeat (first | exact trivial | refine ⟨rfl, ?_⟩))) (Subs.sub (by repeat (first | exact Subs.nil _ | apply Subs.cons | exact List.Mem.head _ | refine List.Mem.tail _ ?_))) (Picks.perm (by repeat (first | exact Picks.nil _ | apply Picks.cons | exact Pull.here _ _ | apply Pull.there))) ?_
                      trivial
                    · have hg85' := hg85
                      try simp only [decide_eq_true_eq, decide_eq_false_iff_not, Bool.not_eq_true', Bool.not_eq_false', ne_eq, Decidable.not_not, Bool.not_eq_true, Bool.and_eq_true, Bool.or_eq_true, BitVec.reduceToNat] at hg85'
                      refine JO.gf (g := 86) rfl rfl hg85 (by decide) ?_
                      refine JO.gf (g := 86) rfl rfl hg85 (by decide) ?_
                      refine JO.gf (g := 86) rfl rfl hg85 (by decide) ?_
                      refine JO.gf (g := 86) rfl rfl hg85 (by decide) ?_
                      refine JO.gf (g := 86) rfl rfl hg85 (by decide) ?_
                      refine JO.v (Yv.pick0 rfl hg85 rfl) (by decide) ?_
                      refine JO.nil ?_
                      refine JQ.head () (by first | (refine ⟨by first | rfl | (simp [*]; done) | (show some _ = some _; simp [*]; done), ?_⟩; repeat (first | exact trivial | refine ⟨rfl, ?_⟩))) (Subs.sub (by repeat (first | exact Subs.nil _ | apply Subs.cons | exact List.Mem.head _ | refine List.Mem.tail _ ?_))) (Picks.perm (by repeat (first | exact Picks.nil _ | apply Picks.cons | exact Pull.here _ _ | apply Pull.there))) ?_
                      trivial
                  · skip
                    refine JO.nil ?_
                    refine JQ.then_normal ?_
                    refine JC.cond rfl (fun hc5 => ?_) (fun hc5 => ?_)
                    · try simp only [decide_eq_true_eq, decide_eq_false_iff_not, Bool.not_eq_true', Bool.not_eq_false', ne_eq, Decidable.not_not, Bool.not_eq_true, Bool.and_eq_true, Bool.or_eq_true, BitVec.reduceToNat] at hc5
                      exact absurd hc5 (by decide)
                    · try simp only [decide_eq_true_eq, decide_eq_false_iff_not, Bool.not_eq_true', Bool.not_eq_false', ne_eq, Decidable.not_not, Bool.not_eq_true, Bool.and_eq_true, Bool.or_eq_true, BitVec.reduceToNat] at hc5
                      refine JC.skip ?_
                      refine JQ.then_normal ?_
                      refine JC.seq ?_
                      refine JC.region ?_
                      refine JO.v (Yv.as (v' := it ((0 : Nat) : Int)) (Yv.assign rfl) rfl) (by decide) ?_
                      refine JO.nil ?_
                      refine JQ.then_normal ?_
                      refine JC.block ?_
                      refine JC.loop (ι := Nat) (fun x => True) (fun x => [(0, u), (1, u64 pot), (5, .bool true), (6, it (ws.length : Int)), (10, v51), (11, .bool (noneT ws (i + 1))), (12, it (i : Int)), (13, it (x : Int))]) (fun x => [Res.var 0 ((wd 9223372036854775808).map u64), Res.rd u ws.length 1 (ws.map u64)]) (fun x => [Res.row v51 (fairR ws pot).length 23 1 ((fairR ws pot).map u64)]) (fun x => i - x) 0 (by repeat (first | exact trivial | refine ⟨by first | rfl | (simp; done), ?_⟩)) (Subs.sub (by repeat (first | exact Subs.nil _ | apply Subs.cons | exact List.Mem.head _ | refine List.Mem.tail _ ?_))) (Picks.perm (by repeat (first | exact Picks.nil _ | apply Picks.cons | exact Pull.here _ _ | apply Pull.there))) ?_ (fun x hx => ?_)
                      · trivial
                      refine JC.seq ?_
                      refine JC.seq ?_
                      refine JC.region ?_
                      refine JO.v (Yv.move rfl) (by decide) ?_
                      refine JO.v (Yv.move rfl) (by decide) ?_
                      refine JO.v (Yv.bin rfl rfl BinR.lss_i) (by decide) ?_
                      refine JO.nil ?_
                      refine JQ.then_normal ?_
                      refine JC.cond rfl (fun hc6 => ?_) (fun hc6 => ?_)
                      · try simp only [decide_eq_true_eq, decide_eq_false_iff_not, Bool.not_eq_true', Bool.not_eq_false', ne_eq, Decidable.not_not, Bool.not_eq_true, Bool.and_eq_true, Bool.or_eq_true, BitVec.reduceToNat] at hc6
                        skip
                        refine JC.skip ?_
                        refine JQ.then_normal ?_
                        refine JC.seq ?_
                        refine JC.block ?_
                        refine JC.seq ?_
                        refine JC.draw (.one 0 (.one 1 (.one 2 (.one 3 (.one 4 (.one 5 (.one 6 (.one 7 (.one 8 (.one 9 (.one 10 (.one 11 (.one 12 (.one 13 (.one 14 (.one 15 (.one 16 (.one 17 (.one 18 (.one 19 (.one 20 (.one 21 (.one 22 (.one 23 (.one 24 (.one 25 (.one 26 (.one 27 (.one 28 (.one 29 (.one 30 (.one 31 (.one 32 (.one 33 (.one 34 (.one 35 (.one 36 (.one 37 (.one 38 (.one 39 (.one 40 (.one 41 .nil)))))))))))))))))))))))))))))))))))))))))) (fun i => ([] : List Nat).contains i) (fun i => ([] : List Nat).contains i) (fun i => ([0, 1, 2, 4, 5, 6, 8, 9, 10, 11, 14, 15, 18, 19, 20, 21, 22, 23, 25, 26, 27, 29, 30, 31, 32, 35, 36, 39, 40, 41] : List Nat).contains i) mixed (by kernel_rfl) (by decide) (by kernel_rfl) ?_
                        refine JR.u rfl rfl rfl (Yv.move rfl) (by decide) ?_
                        refine JR.u rfl rfl rfl (Yv.move rfl) (by decide) ?_
                        first | refine JR.u rfl rfl rfl (Yv.indexRow1 Tryd.underlying22 sz_23 rfl rfl (by repeat (first | exact List.Mem.head _ | refine List.Mem.tail _ ?_)) (by first | exact ltb rfl | (simp; done) | (simp; omega) | omega | (simp [*]; omega))) (by decide) ?_ | refine JR.u rfl rfl rfl (Yv.indexRd1 Tryd.underlying22 sz_23 rfl rfl (by repeat (first | exact Lend.same _ _ | exact Lend.row _ _ _ _ _ _ (by decide) | apply Lend.there)) (by first | exact ltb rfl | (simp; done) | (simp; omega) | omega | (simp [*]; omega))) (by decide) ?_
                        refine JR.v rfl rfl rfl (Yv.load1 one_23 rfl (by first | exact Kn.row (by repeat (first | exact List.Mem.head _ | refine List.Mem.tail _ ?_)) (by exact gm (d := 0) (by omega)) | exact Kn.rd (by repeat (first | exact Lend.same _ _ | exact Lend.row _ _ _ _ _ _ (by decide) | apply Lend.there)) (by exact gm (d := 0) (by omega)))) (by decide) ?_
                        refine JR.u rfl rfl rfl (Yv.move rfl) (by decide) ?_
                        refine JR.u rfl rfl rfl (Yv.move rfl) (by decide) ?_
                        first | refine JR.u rfl rfl rfl (Yv.indexRow1 Tryd.underlying22 sz_23 rfl rfl (by repeat (first | exact List.Mem.head _ | refine List.Mem.tail _ ?_)) (by first | exact ltb rfl | (simp; done) | (simp; omega) | omega | (simp [*]; omega))) (by decide) ?_ | refine JR.u rfl rfl rfl (Yv.indexRd1 Tryd.underlying22 sz_23 rfl rfl (by repeat (first | exact Lend.same _ _ | exact Lend.row _ _ _ _ _ _ (by decide) | apply Lend.there)) (by first | exact ltb rfl | (simp; done) | (simp; omega) | omega | (simp [*]; omega))) (by decide) ?_
                        refine JR.v rfl rfl rfl (Yv.load1 one_23 rfl (by first | exact Kn.row (by repeat (first | exact List.Mem.head _ | refine List.Mem.tail _ ?_)) (by exact gm (d := 0) (by omega)) | exact Kn.rd (by repeat (first | exact Lend.same _ _ | exact Lend.row _ _ _ _ _ _ (by decide) | apply Lend.there)) (by exact gm (d := 0) (by omega)))) (by decide) ?_
                        refine JR.u rfl rfl rfl (Yv.bin rfl rfl (BinR.geq_u64)) (by decide) ?_
                        refine JR.u rfl rfl rfl (Yv.move rfl) (by decide) ?_
                        refine JR.gsplit (g := 106) rfl (fun hg106 => ?_) (fun hg106 => ?_)
                        · have hg106' := hg106
                          try simp only [decide_eq_true_eq, decide_eq_false_iff_not, Bool.not_eq_true', Bool.not_eq_false', ne_eq, Decidable.not_not, Bool.not_eq_true, Bool.and_eq_true, Bool.or_eq_true, BitVec.reduceToNat] at hg106'
                          refine JR.ugt (g := 107) rfl rfl rfl rfl rfl hg106 (Yv.move rfl) (by decide) ?_
                          refine JR.ugt (g := 107) rfl rfl rfl rfl rfl hg106 (Yv.move rfl) (by decide) ?_
                          first | refine JR.vgt (g := 107) rfl rfl rfl rfl rfl hg106 (Yv.indexRow1 Tryd.underlying22 sz_23 rfl rfl (by repeat (first | exact List.Mem.head _ | refine List.Mem.tail _ ?_)) (by first | exact ltb rfl | (simp; done) | (simp; omega) | omega | (simp [*]; omega))) (by decide) ?_ | refine JR.vgt (g := 107) rfl rfl rfl rfl rfl hg106 (Yv.indexRd1 Tryd.underlying22 sz_23 rfl rfl (by repeat (first | exact Lend.same _ _ | exact Lend.row _ _ _ _ _ _ (by decide) | apply Lend.there)) (by first | exact ltb rfl | (simp; done) | (simp; omega) | omega | (simp [*]; omega))) (by decide) ?_
                          refine JR.vgt (g := 107) rfl rfl rfl rfl rfl hg106 (Yv.load1 one_23 rfl (by first | exact Kn.row (by repeat (first | exact List.Mem.head _ | refine List.Mem.tail _ ?_)) (by exact gm (d := 0) (by omega)) | exact Kn.rd (by repeat (first | exact Lend.same _ _ | exact Lend.row _ _ _ _ _ _ (by decide) | apply Lend.there)) (by exact gm (d := 0) (by omega)))) (by decide) ?_
                          refine JR.ugt (g := 107) rfl rfl rfl rfl rfl hg106 (Yv.move rfl) (by decide) ?_
                          refine JR.ugt (g := 107) rfl rfl rfl rfl rfl hg106 (Yv.move rfl) (by decide) ?_
                          first | refine JR.vgt (g := 107) rfl rfl rfl rfl rfl hg106 (Yv.indexRow1 Tryd.underlying22 sz_23 rfl rfl (by repeat (first | exact List.Mem.head _ | refine List.Mem.tail _ ?_)) (by first | exact ltb rfl | (simp; done) | (simp; omega) | omega | (simp [*]; omega))) (by decide) ?_ | refine JR.vgt (g := 107) rfl rfl rfl rfl rfl hg106 (Yv.indexRd1 Tryd.underlying22 sz_23 rfl rfl (by repeat (first | exact Lend.same _ _ | exact Lend.row _ _ _ _ _ _ (by decide) | apply Lend.there)) (by first | exact ltb rfl | (simp; done) | (simp; omega) | omega | (simp [*]; omega))) (by decide) ?_
                          refine JR.vgt (g := 107) rfl rfl rfl rfl rfl hg106 (Yv.load1 one_23 rfl (by first | exact Kn.row (by repeat (first | exact List.Mem.head _ | refine List.Mem.tail _ ?_)) (by exact gm (d := 0) (by omega)) | exact Kn.rd (by repeat (first | exact Lend.same _ _ | exact Lend.row _ _ _ _ _ _ (by decide) | apply Lend.there)) (by exact gm (d := 0) (by omega)))) (by decide) ?_
                          refine JR.ugt (g := 107) rfl rfl rfl rfl rfl hg106 (Yv.as (v' := .bool false) (Yv.bin rfl rfl (BinR.lss_u64)) (congrArg Value.bool (decide_eq_false (Nat.not_lt.2 (fair_mono hn (by omega) (by omega) (by omega)))))) (by decide) ?_
                          refine JR.u rfl rfl rfl (Yv.pick1 rfl hg106 rfl) (by decide) ?_
                          refine JR.u rfl rfl rfl (Yv.move rfl) (by decide) ?_
                          refine JR.ugt (g := 118) rfl rfl rfl rfl rfl rfl (Yv.move rfl) (by decide) ?_
                          refine JR.ugt (g := 118) rfl rfl rfl rfl rfl rfl (Yv.move rfl) (by decide) ?_
                          first | refine JR.ugt (g := 118) rfl rfl rfl rfl rfl rfl (Yv.indexRow1 Tryd.underlying22 sz_23 rfl rfl (by repeat (first | exact List.Mem.head _ | refine List.Mem.tail _ ?_)) (by first | exact ltb rfl | (simp; done) | (simp; omega) | omega | (simp [*]; omega))) (by decide) ?_ | refine JR.ugt (g := 118) rfl rfl rfl rfl rfl rfl (Yv.indexRd1 Tryd.underlying22 sz_23 rfl rfl (by repeat (first | exact Lend.same _ _ | exact Lend.row _ _ _ _ _ _ (by decide) | apply Lend.there)) (by first | exact ltb rfl | (simp; done) | (simp; omega) | omega | (simp [*]; omega))) (by decide) ?_
                          refine JR.vgt (g := 118) rfl rfl rfl rfl rfl rfl (Yv.load1 one_23 rfl (by first | exact Kn.row (by repeat (first | exact List.Mem.head _ | refine List.Mem.tail _ ?_)) (by exact gm (d := 0) (by omega)) | exact Kn.rd (by repeat (first | exact Lend.same _ _ | exact Lend.row _ _ _ _ _ _ (by decide) | apply Lend.there)) (by exact gm (d := 0) (by omega)))) (by decide) ?_
                          refine JR.ugt (g := 118) rfl rfl rfl rfl rfl rfl (Yv.move rfl) (by decide) ?_
                          refine JR.ugt (g := 118) rfl rfl rfl rfl rfl rfl (Yv.move rfl) (by decide) ?_
                          first | refine JR.ugt (g := 118) rfl rfl rfl rfl rfl rfl (Yv.indexRow1 Tryd.underlying22 sz_23 rfl rfl (by repeat (first | exact List.Mem.head _ | refine List.Mem.tail _ ?_)) (by first | exact ltb rfl | (simp; done) | (simp; omega) | omega | (simp [*]; omega))) (by decide) ?_ | refine JR.ugt (g := 118) rfl rfl rfl rfl rfl rfl (Yv.indexRd1 Tryd.underlying22 sz_23 rfl rfl (by repeat (first | exact Lend.same _ _ | exact Lend.row _ _ _ _ _ _ (by decide) | apply Lend.there)) (by first | exact ltb rfl | (simp; done) | (simp; omega) | omega | (simp [*]; omega))) (by decide) ?_
                          refine JR.vgt (g := 118) rfl rfl rfl rfl rfl rfl (Yv.load1 one_23 rfl (by first | exact Kn.row (by repeat (first | exact List.Mem.head _ | refine List.Mem.tail _ ?_)) (by exact gm (d := 0) (by omega)) | exact Kn.rd (by repeat (first | exact Lend.same _ _ | exact Lend.row _ _ _ _ _ _ (by decide) | apply Lend.there)) (by exact gm (d := 0) (by omega)))) (by decide) ?_
                          refine JR.ugt (g := 118) rfl rfl rfl rfl rfl rfl (Yv.bin rfl rfl (BinR.leq_u64)) (by decide) ?_
                          refine JR.ugt (g := 118) rfl rfl rfl rfl rfl rfl (Yv.move rfl) (by decide) ?_
                          refine JR.gsplit (g := 127) rfl (fun hg127 => ?_) (fun hg127 => ?_)
                          · have hg127' := hg127
                            try simp only [decide_eq_true_eq, decide_eq_false_iff_not, Bool.not_eq_true', Bool.not_eq_false', ne_eq, Decidable.not_not, Bool.not_eq_true, Bool.and_eq_true, Bool.or_eq_true, BitVec.reduceToNat] at hg127'
                            refine JR.ugt (g := 128) rfl rfl rfl rfl rfl hg127 (Yv.move rfl) (by decide) ?_
                            refine JR.ugt (g := 128) rfl rfl rfl rfl rfl hg127 (Yv.move rfl) (by decide) ?_
                            first | refine JR.vgt (g := 128) rfl rfl rfl rfl rfl hg127 (Yv.indexRow1 Tryd.underlying22 sz_23 rfl rfl (by repeat (first | exact List.Mem.head _ | refine List.Mem.tail _ ?_)) (by first | exact ltb rfl | (simp; done) | (simp; omega) | omega | (simp [*]; omega))) (by decide) ?_ | refine JR.vgt (g := 128) rfl rfl rfl rfl rfl hg127 (Yv.indexRd1 Tryd.underlying22 sz_23 rfl rfl (by repeat (first | exact Lend.same _ _ | exact Lend.row _ _ _ _ _ _ (by decide) | apply Lend.there)) (by first | exact ltb rfl | (simp; done) | (simp; omega) | omega | (simp [*]; omega))) (by decide) ?_
                            refine JR.vgt (g := 128) rfl rfl rfl rfl rfl hg127 (Yv.load1 one_23 rfl (by first | exact Kn.row (by repeat (first | exact List.Mem.head _ | refine List.Mem.tail _ ?_)) (by exact gm (d := 0) (by omega)) | exact Kn.rd (by repeat (first | exact Lend.same _ _ | exact Lend.row _ _ _ _ _ _ (by decide) | apply Lend.there)) (by exact gm (d := 0) (by omega)))) (by decide) ?_
                            refine JR.ugt (g := 128) rfl rfl rfl rfl rfl hg127 (Yv.move rfl) (by decide) ?_
                            refine JR.ugt (g := 128) rfl rfl rfl rfl rfl hg127 (Yv.move rfl) (by decide) ?_
                            first | refine JR.vgt (g := 128) rfl rfl rfl rfl rfl hg127 (Yv.indexRow1 Tryd.underlying22 sz_23 rfl rfl (by repeat (first | exact List.Mem.head _ | refine List.Mem.tail _ ?_)) (by first | exact ltb rfl | (simp; done) | (simp; omega) | omega | (simp [*]; omega))) (by decide) ?_ | refine JR.vgt (g := 128) rfl rfl rfl rfl rfl hg127 (Yv.indexRd1 Tryd.underlying22 sz_23 rfl rfl (by repeat (first | exact Lend.same _ _ | exact Lend.row _ _ _ _ _ _ (by decide) | apply Lend.there)) (by first | exact ltb rfl | (simp; done) | (simp; omega) | omega | (simp [*]; omega))) (by decide) ?_
                            refine JR.vgt (g := 128) rfl rfl rfl rfl rfl hg127 (Yv.load1 one_23 rfl (by first | exact Kn.row (by repeat (first | exact List.Mem.head _ | refine List.Mem.tail _ ?_)) (by exact gm (d := 0) (by omega)) | exact Kn.rd (by repeat (first | exact Lend.same _ _ | exact Lend.row _ _ _ _ _ _ (by decide) | apply Lend.there)) (by exact gm (d := 0) (by omega)))) (by decide) ?_
                            refine JR.ugt (g := 128) rfl rfl rfl rfl rfl hg127 (Yv.as (v' := .bool false) (Yv.bin rfl rfl (BinR.gtr_u64)) (congrArg Value.bool (decide_eq_false (Nat.not_lt.2 (fair_mono hn (by omega) (by omega) (by omega)))))) (by decide) ?_
                            refine JR.ugt (g := 118) rfl rfl rfl rfl rfl rfl (Yv.pick1 rfl hg127 rfl) (by decide) ?_
                            refine JR.u rfl rfl rfl (Yv.pick0 rfl rfl rfl) (by decide) ?_
                            refine JR.nil ?_
                            refine JQ.then_normal ?_
                            refine JC.cond rfl (fun hc7 => ?_) (fun hc7 => ?_)
                            · try simp only [decide_eq_true_eq, decide_eq_false_iff_not, Bool.not_eq_true', Bool.not_eq_false', ne_eq, Decidable.not_not, Bool.not_eq_true, Bool.and_eq_true, Bool.or_eq_true, BitVec.reduceToNat] at hc7
                              exact absurd hc7 (by decide)
                            · try simp only [decide_eq_true_eq, decide_eq_false_iff_not, Bool.not_eq_true', Bool.not_eq_false', ne_eq, Decidable.not_not, Bool.not_eq_true, Bool.and_eq_true, Bool.or_eq_true, BitVec.reduceToNat] at hc7
                              refine JC.skip ?_
                              refine JQ.block_normal ?_
                              refine JQ.then_normal ?_
                              refine JC.region ?_
                              refine JO.v (Yv.move rfl) (by decide) ?_
                              refine JO.v (Yv.bin rfl rfl (BinR.add_i (by first | (constructor <;> omega) | (constructor <;> simp <;> omega)))) (by decide) ?_
                              refine JO.v (Yv.assign rfl) (by decide) ?_
                              refine JO.nil ?_
                              refine JQ.head (x + 1) (by repeat (first | exact trivial | refine ⟨by first | rfl | (simp; done), ?_⟩)) (Subs.sub (by repeat (first | exact Subs.nil _ | apply Subs.cons | exact List.Mem.head _ | refine List.Mem.tail _ ?_))) (Picks.perm (by repeat (first | exact Picks.nil _ | apply Picks.cons | exact Pull.here _ _ | apply Pull.there))) ?_
                              exact ⟨trivial, by omega⟩
                          · have hg127' := hg127
                            try simp only [decide_eq_true_eq, decide_eq_false_iff_not, Bool.not_eq_true', Bool.not_eq_false', ne_eq, Decidable.not_not, Bool.not_eq_true, Bool.and_eq_true, Bool.or_eq_true, BitVec.reduceToNat] at hg127'
                            refine JR.gf (g := 128) rfl rfl rfl rfl hg127 (by decide) ?_
                            refine JR.gf (g := 128) rfl rfl rfl rfl hg127 (by decide) ?_
                            refine JR.gf (g := 128) rfl rfl rfl rfl hg127 (by decide) ?_
                            refine JR.gf (g := 128) rfl rfl rfl rfl hg127 (by decide) ?_
                            refine JR.gf (g := 128) rfl rfl rfl rfl hg127 (by decide) ?_
                            refine JR.gf (g := 128) rfl rfl rfl rfl hg127 (by decide) ?_
                            refine JR.gf (g := 128) rfl rfl rfl rfl hg127 (by decide) ?_
                            refine JR.gf (g := 128) rfl rfl rfl rfl hg127 (by decide) ?_
                            refine JR.gf (g := 128) rfl rfl rfl rfl hg127 (by decide) ?_
                            refine JR.ugt (g := 118) rfl rfl rfl rfl rfl rfl (Yv.pick0 rfl hg127 rfl) (by decide) ?_
                            refine JR.u rfl rfl rfl (Yv.pick0 rfl rfl rfl) (by decide) ?_
                            refine JR.nil ?_
                            refine JQ.then_normal ?_
                            refine JC.cond rfl (fun hc7 => ?_) (fun hc7 => ?_)
                            · try simp only [decide_eq_true_eq, decide_eq_false_iff_not, Bool.not_eq_true', Bool.not_eq_false', ne_eq, Decidable.not_not, Bool.not_eq_true, Bool.and_eq_true, Bool.or_eq_true, BitVec.reduceToNat] at hc7
                              exact absurd hc7 (by decide)
                            · try simp only [decide_eq_true_eq, decide_eq_false_iff_not, Bool.not_eq_true', Bool.not_eq_false', ne_eq, Decidable.not_not, Bool.not_eq_true, Bool.and_eq_true, Bool.or_eq_true, BitVec.reduceToNat] at hc7
                              refine JC.skip ?_
                              refine JQ.block_normal ?_
                              refine JQ.then_normal ?_
                              refine JC.region ?_
                              refine JO.v (Yv.move rfl) (by decide) ?_
                              refine JO.v (Yv.bin rfl rfl (BinR.add_i (by first | (constructor <;> omega) | (constructor <;> simp <;> omega)))) (by decide) ?_
                              refine JO.v (Yv.assign rfl) (by decide) ?_
                              refine JO.nil ?_
                              refine JQ.head (x + 1) (by repeat (first | exact trivial | refine ⟨by first | rfl | (simp; done), ?_⟩)) (Subs.sub (by repeat (first | exact Subs.nil _ | apply Subs.cons | exact List.Mem.head _ | refine List.Mem.tail _ ?_))) (Picks.perm (by repeat (first | exact Picks.nil _ | apply Picks.cons | exact Pull.here _ _ | apply Pull.there))) ?_
                              exact ⟨trivial, by omega⟩
                        · have hg106' := hg106
                          try simp only [decide_eq_true_eq, decide_eq_false_iff_not, Bool.not_eq_true', Bool.not_eq_false', ne_eq, Decidable.not_not, Bool.not_eq_true, Bool.and_eq_true, Bool.or_eq_true, BitVec.reduceToNat] at hg106'
                          refine JR.gf (g := 107) rfl rfl rfl rfl hg106 (by decide) ?_
                          refine JR.gf (g := 107) rfl rfl rfl rfl hg106 (by decide) ?_
                          refine JR.gf (g := 107) rfl rfl rfl rfl hg106 (by decide) ?_
                          refine JR.gf (g := 107) rfl rfl rfl rfl hg106 (by decide) ?_
                          refine JR.gf (g := 107) rfl rfl rfl rfl hg106 (by decide) ?_
                          refine JR.gf (g := 107) rfl rfl rfl rfl hg106 (by decide) ?_
                          refine JR.gf (g := 107) rfl rfl rfl rfl hg106 (by decide) ?_
                          refine JR.gf (g := 107) rfl rfl rfl rfl hg106 (by decide) ?_
                          refine JR.gf (g := 107) rfl rfl rfl rfl hg106 (by decide) ?_
                          refine JR.u rfl rfl rfl (Yv.pick0 rfl hg106 rfl) (by decide) ?_
                          refine JR.u rfl rfl rfl (Yv.move rfl) (by decide) ?_
                          refine JR.ugt (g := 118) rfl rfl rfl rfl rfl rfl (Yv.move rfl) (by decide) ?_
                          refine JR.ugt (g := 118) rfl rfl rfl rfl rfl rfl (Yv.move rfl) (by decide) ?_
                          first | refine JR.ugt (g := 118) rfl rfl rfl rfl rfl rfl (Yv.indexRow1 Tryd.underlying22 sz_23 rfl rfl (by repeat (first | exact List.Mem.head _ | refine List.Mem.tail _ ?_)) (by first | exact ltb rfl | (simp; done) | (simp; omega) | omega | (simp [*]; omega))) (by decide) ?_ | refine JR.ugt (g := 118) rfl rfl rfl rfl rfl rfl (Yv.indexRd1 Tryd.underlying22 sz_23 rfl rfl (by repeat (first | exact Lend.same _ _ | exact Lend.row _ _ _ _ _ _ (by decide) | apply Lend.there)) (by first | exact ltb rfl | (simp; done) | (simp; omega) | omega | (simp [*]; omega))) (by decide) ?_
                          refine JR.vgt (g := 118) rfl rfl rfl rfl rfl rfl (Yv.load1 one_23 rfl (by first | exact Kn.row (by repeat (first | exact List.Mem.head _ | refine List.Mem.tail _ ?_)) (by exact gm (d := 0) (by omega)) | exact Kn.rd (by repeat (first | exact Lend.same _ _ | exact Lend.row _ _ _ _ _ _ (by decide) | apply Lend.there)) (by exact gm (d := 0) (by omega)))) (by decide) ?_
                          refine JR.ugt (g := 118) rfl rfl rfl rfl rfl rfl (Yv.move rfl) (by decide) ?_
                          refine JR.ugt (g := 118) rfl rfl rfl rfl rfl rfl (Yv.move rfl) (by decide) ?_
                          first | refine JR.ugt (g := 118) rfl rfl rfl rfl rfl rfl (Yv.indexRow1 Tryd.underlying22 sz_23 rfl rfl (by repeat (first | exact List.Mem.head _ | refine List.Mem.tail _ ?_)) (by first | exact ltb rfl | (simp; done) | (simp; omega) | omega | (simp [*]; omega))) (by decide) ?_ | refine JR.ugt (g := 118) rfl rfl rfl rfl rfl rfl (Yv.indexRd1 Tryd.underlying22 sz_23 rfl rfl (by repeat (first | exact Lend.same _ _ | exact Lend.row _ _ _ _ _ _ (by decide) | apply Lend.there)) (by first | exact ltb rfl | (simp; done) | (simp; omega) | omega | (simp [*]; omega))) (by decide) ?_
                          refine JR.vgt (g := 118) rfl rfl rfl rfl rfl rfl (Yv.load1 one_23 rfl (by first | exact Kn.row (by repeat (first | exact List.Mem.head _ | refine List.Mem.tail _ ?_)) (by exact gm (d := 0) (by omega)) | exact Kn.rd (by repeat (first | exact Lend.same _ _ | exact Lend.row _ _ _ _ _ _ (by decide) | apply Lend.there)) (by exact gm (d := 0) (by omega)))) (by decide) ?_
                          refine JR.ugt (g := 118) rfl rfl rfl rfl rfl rfl (Yv.bin rfl rfl (BinR.leq_u64)) (by decide) ?_
                          refine JR.ugt (g := 118) rfl rfl rfl rfl rfl rfl (Yv.move rfl) (by decide) ?_
                          refine JR.gsplit (g := 127) rfl (fun hg127 => ?_) (fun hg127 => ?_)
                          · have hg127' := hg127
                            try simp only [decide_eq_true_eq, decide_eq_false_iff_not, Bool.not_eq_true', Bool.not_eq_false', ne_eq, Decidable.not_not, Bool.not_eq_true, Bool.and_eq_true, Bool.or_eq_true, BitVec.reduceToNat] at hg127'
                            refine JR.ugt (g := 128) rfl rfl rfl rfl rfl hg127 (Yv.move rfl) (by decide) ?_
                            refine JR.ugt (g := 128) rfl rfl rfl rfl rfl hg127 (Yv.move rfl) (by decide) ?_
                            first | refine JR.vgt (g := 128) rfl rfl rfl rfl rfl hg127 (Yv.indexRow1 Tryd.underlying22 sz_23 rfl rfl (by repeat (first | exact List.Mem.head _ | refine List.Mem.tail _ ?_)) (by first | exact ltb rfl | (simp; done) | (simp; omega) | omega | (simp [*]; omega))) (by decide) ?_ | refine JR.vgt (g := 128) rfl rfl rfl rfl rfl hg127 (Yv.indexRd1 Tryd.underlying22 sz_23 rfl rfl (by repeat (first | exact Lend.same _ _ | exact Lend.row _ _ _ _ _ _ (by decide) | apply Lend.there)) (by first | exact ltb rfl | (simp; done) | (simp; omega) | omega | (simp [*]; omega))) (by decide) ?_
                            refine JR.vgt (g := 128) rfl rfl rfl rfl rfl hg127 (Yv.load1 one_23 rfl (by first | exact Kn.row (by repeat (first | exact List.Mem.head _ | refine List.Mem.tail _ ?_)) (by exact gm (d := 0) (by omega)) | exact Kn.rd (by repeat (first | exact Lend.same _ _ | exact Lend.row _ _ _ _ _ _ (by decide) | apply Lend.there)) (by exact gm (d := 0) (by omega)))) (by decide) ?_
                            refine JR.ugt (g := 128) rfl rfl rfl rfl rfl hg127 (Yv.move rfl) (by decide) ?_
                            refine JR.ugt (g := 128) rfl rfl rfl rfl rfl hg127 (Yv.move rfl) (by decide) ?_
                            first | refine JR.vgt (g := 128) rfl rfl rfl rfl rfl hg127 (Yv.indexRow1 Tryd.underlying22 sz_23 rfl rfl (by repeat (first | exact List.Mem.head _ | refine List.Mem.tail _ ?_)) (by first | exact ltb rfl | (simp; done) | (simp; omega) | omega | (simp [*]; omega))) (by decide) ?_ | refine JR.vgt (g := 128) rfl rfl rfl rfl rfl hg127 (Yv.indexRd1 Tryd.underlying22 sz_23 rfl rfl (by repeat (first | exact Lend.same _ _ | exact Lend.row _ _ _ _ _ _ (by decide) | apply Lend.there)) (by first | exact ltb rfl | (simp; done) | (simp; omega) | omega | (simp [*]; omega))) (by decide) ?_
                            refine JR.vgt (g := 128) rfl rfl rfl rfl rfl hg127 (Yv.load1 one_23 rfl (by first | exact Kn.row (by repeat (first | exact List.Mem.head _ | refine List.Mem.tail _ ?_)) (by exact gm (d := 0) (by omega)) | exact Kn.rd (by repeat (first | exact Lend.same _ _ | exact Lend.row _ _ _ _ _ _ (by decide) | apply Lend.there)) (by exact gm (d := 0) (by omega)))) (by decide) ?_
                            refine JR.ugt (g := 128) rfl rfl rfl rfl rfl hg127 (Yv.as (v' := .bool false) (Yv.bin rfl rfl (BinR.gtr_u64)) (congrArg Value.bool (decide_eq_false (Nat.not_lt.2 (fair_mono hn (by omega) (by omega) (by omega)))))) (by decide) ?_
                            refine JR.ugt (g := 118) rfl rfl rfl rfl rfl rfl (Yv.pick1 rfl hg127 rfl) (by decide) ?_
                            refine JR.u rfl rfl rfl (Yv.pick0 rfl rfl rfl) (by decide) ?_
                            refine JR.nil ?_
                            refine JQ.then_normal ?_
                            refine JC.cond rfl (fun hc7 => ?_) (fun hc7 => ?_)
                            · try simp only [decide_eq_true_eq, decide_eq_false_iff_not, Bool.not_eq_true', Bool.not_eq_false', ne_eq, Decidable.not_not, Bool.not_eq_true, Bool.and_eq_true, Bool.or_eq_true, BitVec.reduceToNat] at hc7
                              exact absurd hc7 (by decide)
                            · try simp only [decide_eq_true_eq, decide_eq_false_iff_not, Bool.not_eq_true', Bool.not_eq_false', ne_eq, Decidable.not_not, Bool.not_eq_true, Bool.and_eq_true, Bool.or_eq_true, BitVec.reduceToNat] at hc7
                              refine JC.skip ?_
                              refine JQ.block_normal ?_
                              refine JQ.then_normal ?_
                              refine JC.region ?_
                              refine JO.v (Yv.move rfl) (by decide) ?_
                              refine JO.v (Yv.bin rfl rfl (BinR.add_i (by first | (constructor <;> omega) | (constructor <;> simp <;> omega)))) (by decide) ?_
                              refine JO.v (Yv.assign rfl) (by decide) ?_
                              refine JO.nil ?_
                              refine JQ.head (x + 1) (by repeat (first | exact trivial | refine ⟨by first | rfl | (simp; done), ?_⟩)) (Subs.sub (by repeat (first | exact Subs.nil _ | apply Subs.cons | exact List.Mem.head _ | refine List.Mem.tail _ ?_))) (Picks.perm (by repeat (first | exact Picks.nil _ | apply Picks.cons | exact Pull.here _ _ | apply Pull.there))) ?_
                              exact ⟨trivial, by omega⟩
                          · have hg127' := hg127
                            try simp only [decide_eq_true_eq, decide_eq_false_iff_not, Bool.not_eq_true', Bool.not_eq_false', ne_eq, Decidable.not_not, Bool.not_eq_true, Bool.and_eq_true, Bool.or_eq_true, BitVec.reduceToNat] at hg127'
                            refine JR.gf (g := 128) rfl rfl rfl rfl hg127 (by decide) ?_
                            refine JR.gf (g := 128) rfl rfl rfl rfl hg127 (by decide) ?_
                            refine JR.gf (g := 128) rfl rfl rfl rfl hg127 (by decide) ?_
                            refine JR.gf (g := 128) rfl rfl rfl rfl hg127 (by decide) ?_
                            refine JR.gf (g := 128) rfl rfl rfl rfl hg127 (by decide) ?_
                            refine JR.gf (g := 128) rfl rfl rfl rfl hg127 (by decide) ?_
                            refine JR.gf (g := 128) rfl rfl rfl rfl hg127 (by decide) ?_
                            refine JR.gf (g := 128) rfl rfl rfl rfl hg127 (by decide) ?_
                            refine JR.gf (g := 128) rfl rfl rfl rfl hg127 (by decide) ?_
                            refine JR.ugt (g := 118) rfl rfl rfl rfl rfl rfl (Yv.pick0 rfl hg127 rfl) (by decide) ?_
                            refine JR.u rfl rfl rfl (Yv.pick0 rfl rfl rfl) (by decide) ?_
                            refine JR.nil ?_
                            refine JQ.then_normal ?_
                            refine JC.cond rfl (fun hc7 => ?_) (fun hc7 => ?_)
                            · try simp only [decide_eq_true_eq, decide_eq_false_iff_not, Bool.not_eq_true', Bool.not_eq_false', ne_eq, Decidable.not_not, Bool.not_eq_true, Bool.and_eq_true, Bool.or_eq_true, BitVec.reduceToNat] at hc7
                              exact absurd hc7 (by decide)
                            · try simp only [decide_eq_true_eq, decide_eq_false_iff_not, Bool.not_eq_true', Bool.not_eq_false', ne_eq, Decidable.not_not, Bool.not_eq_true, Bool.and_eq_true, Bool.or_eq_true, BitVec.reduceToNat] at hc7
                              refine JC.skip ?_
                              refine JQ.block_normal ?_
                              refine JQ.then_normal ?_
                              refine JC.region ?_
                              refine JO.v (Yv.move rfl) (by decide) ?_
                              refine JO.v (Yv.bin rfl rfl (BinR.add_i (by first | (constructor <;> omega) | (constructor <;> simp <;> omega)))) (by decide) ?_
                              refine JO.v (Yv.assign rfl) (by decide) ?_
                              refine JO.nil ?_
                              refine JQ.head (x + 1) (by repeat (first | exact trivial | refine ⟨by first | rfl | (simp; done), ?_⟩)) (Subs.sub (by repeat (first | exact Subs.nil _ | apply Subs.cons | exact List.Mem.head _ | refine List.Mem.tail _ ?_))) (Picks.perm (by repeat (first | exact Picks.nil _ | apply Picks.cons | exact Pull.here _ _ | apply Pull.there))) ?_
                              exact ⟨trivial, by omega⟩
                      · try simp only [decide_eq_true_eq, decide_eq_false_iff_not, Bool.not_eq_true', Bool.not_eq_false', ne_eq, Decidable.not_not, Bool.not_eq_true, Bool.and_eq_true, Bool.or_eq_true, BitVec.reduceToNat] at hc6
                        skip
                        refine JC.exit ?_
                        refine JQ.then_exit ?_
                        refine JQ.then_exit ?_
                        refine JQ.block_exit ?_
                        refine JQ.block_normal ?_
                        refine JQ.then_normal ?_
                        refine JC.region ?_
                        refine JO.v (Yv.move rfl) (by decide) ?_
                        refine JO.v (Yv.bin rfl rfl (BinR.add_i (by first | (constructor <;> omega) | (constructor <;> simp <;> omega)))) (by decide) ?_
                        refine JO.v (Yv.assign rfl) (by decide) ?_
                        refine JO.nil ?_
                        refine JQ.head (i + 1) (by repeat (first | exact trivial | refine ⟨by first | rfl | (simp; done), ?_⟩)) (Subs.sub (by repeat (first | exact Subs.nil _ | apply Subs.cons | exact List.Mem.head _ | refine List.Mem.tail _ ?_))) (Picks.perm (by repeat (first | exact Picks.nil _ | apply Picks.cons | exact Pull.here _ _ | apply Pull.there))) ?_
                        exact ⟨by omega, by omega⟩
              · try simp only [decide_eq_true_eq, decide_eq_false_iff_not, Bool.not_eq_true', Bool.not_eq_false', ne_eq, Decidable.not_not, Bool.not_eq_true, Bool.and_eq_true, Bool.or_eq_true, BitVec.reduceToNat] at hc4
                obtain rfl : i = ws.length := by omega
                refine JC.exit ?_
                refine JQ.then_exit ?_
                refine JQ.then_exit ?_
                refine JQ.block_exit ?_
                refine JQ.then_normal ?_
                refine JC.seq ?_
                refine JC.region ?_
                refine JO.v (Yv.move rfl) (by decide) ?_
                refine JO.v (Yv.move rfl) (by decide) ?_
                refine JO.gt (g := 141) rfl rfl rfl ?_
                refine JO.v (Yv.move rfl) (by decide) ?_
                refine JO.gt (g := 141) rfl rfl rfl ?_
                refine JO.v (Yv.move rfl) (by decide) ?_
                refine JO.gsplit (g := 11) rfl (fun hg149 => ?_) (fun hg149 => ?_)
                · have hg149' := hg149
                  try simp only [decide_eq_true_eq, decide_eq_false_iff_not, Bool.not_eq_true', Bool.not_eq_false', ne_eq, Decidable.not_not, Bool.not_eq_true, Bool.and_eq_true, Bool.or_eq_true, BitVec.reduceToNat] at hg149'
                  refine JO.gt (g := 143) rfl rfl hg149 ?_
                  refine JO.v (Yv.move rfl) (by decide) ?_
                  refine JO.gt (g := 143) rfl rfl hg149 ?_
                  refine JO.v (Yv.move rfl) (by decide) ?_
                  refine JO.gt (g := 143) rfl rfl hg149 ?_
                  refine JO.v (Yv.as (v' := it ((ws.length + 1 : Nat) : Int)) (Yv.bin rfl rfl (BinR.add_i (by first | (constructor <;> omega) | (constructor <;> simp <;> omega)))) (congrArg it (by omega))) (by decide) ?_
                  refine JO.gt (g := 143) rfl rfl hg149 ?_
                  first | refine JO.v (Yv.indexRow1 Tryd.underlying22 sz_23 rfl rfl (by repeat (first | exact List.Mem.head _ | refine List.Mem.tail _ ?_)) (by first | exact ltb rfl | (simp; done) | (simp; omega) | omega | (simp [*]; omega))) (by decide) ?_ | refine JO.v (Yv.indexRd1 Tryd.underlying22 sz_23 rfl rfl (by repeat (first | exact Lend.same _ _ | exact Lend.row _ _ _ _ _ _ (by decide) | apply Lend.there)) (by first | exact ltb rfl | (simp; done) | (simp; omega) | omega | (simp [*]; omega))) (by decide) ?_
                  refine JO.gt (g := 143) rfl rfl hg149 ?_
                  refine JO.v (Yv.load1 one_23 rfl (by first | exact Kn.row (by repeat (first | exact List.Mem.head _ | refine List.Mem.tail _ ?_)) (by exact gm (d := 0) (by omega)) | exact Kn.rd (by repeat (first | exact Lend.same _ _ | exact Lend.row _ _ _ _ _ _ (by decide) | apply Lend.there)) (by exact gm (d := 0) (by omega)))) (by decide) ?_
                  refine JO.gt (g := 143) rfl rfl hg149 ?_
                  refine JO.v (Yv.move rfl) (by decide) ?_
                  refine JO.gt (g := 143) rfl rfl hg149 ?_
                  refine JO.v (Yv.as (v' := .bool true) (Yv.bin rfl rfl (BinR.eql_u64)) (congrArg Value.bool (decide_eq_true (fair_none hn hg149)))) (by decide) ?_
                  refine JO.gt (g := 141) rfl rfl rfl ?_
                  refine JO.v (Yv.pick1 rfl hg149 rfl) (by decide) ?_
                  refine JO.gt (g := 141) rfl rfl rfl ?_
                  refine JO.v (Yv.move rfl) (by decide) ?_
                  refine JO.gf (g := 152) rfl rfl rfl (by decide) ?_
                  refine JO.gf (g := 152) rfl rfl rfl (by decide) ?_
                  refine JO.gf (g := 152) rfl rfl rfl (by decide) ?_
                  refine JO.gu (g := 155) rfl rfl (by decide) ?_
                  refine JO.gu (g := 155) rfl rfl (by decide) ?_
                  refine JO.gu (g := 155) rfl rfl (by decide) ?_
                  refine JO.gu (g := 155) rfl rfl (by decide) ?_
                  refine JO.gu (g := 155) rfl rfl (by decide) ?_
                  refine JO.gu (g := 155) rfl rfl (by decide) ?_
                  refine JO.gu (g := 155) rfl rfl (by decide) ?_
                  refine JO.gu (g := 155) rfl rfl (by decide) ?_
                  refine JO.gf (g := 152) rfl rfl rfl (by decide) ?_
                  refine JO.gt (g := 141) rfl rfl rfl ?_
                  refine JO.v (Yv.pick1 rfl rfl rfl) (by decide) ?_
                  refine JO.v (Yv.pick1 rfl rfl rfl) (by decide) ?_
                  refine JO.v (Yv.assign rfl) (by decide) ?_
                  refine JO.nil ?_
                  refine JQ.then_normal ?_
                  refine JC.ret ?_
                  exact JQ.done (.inr rfl) (Γ' := []) (H' := []) (res1 rfl (RV.tmp rfl)) (Subs.sub (by repeat (first | exact Subs.nil _ | apply Subs.cons | exact List.Mem.head _ | refine List.Mem.tail _ ?_))) (Picks.perm (by repeat (first | exact Picks.nil _ | apply Picks.cons | exact Pull.here _ _ | apply Pull.there))) ⟨rfl, rfl, rfl⟩
                · have hg149' := hg149
                  try simp only [decide_eq_true_eq, decide_eq_false_iff_not, Bool.not_eq_true', Bool.not_eq_false', ne_eq, Decidable.not_not, Bool.not_eq_true, Bool.and_eq_true, Bool.or_eq_true, BitVec.reduceToNat] at hg149'
                  refine JO.gf (g := 143) rfl rfl hg149 (by decide) ?_
                  refine JO.gf (g := 143) rfl rfl hg149 (by decide) ?_
                  refine JO.gf (g := 143) rfl rfl hg149 (by decide) ?_
                  refine JO.gf (g := 143) rfl rfl hg149 (by decide) ?_
                  refine JO.gf (g := 143) rfl rfl hg149 (by decide) ?_
                  refine JO.gf (g := 143) rfl rfl hg149 (by decide) ?_
                  refine JO.gf (g := 143) rfl rfl hg149 (by decide) ?_
                  refine JO.gt (g := 141) rfl rfl rfl ?_
                  refine JO.v (Yv.pick0 rfl hg149 rfl) (by decide) ?_
                  refine JO.gt (g := 141) rfl rfl rfl ?_
                  refine JO.v (Yv.move rfl) (by decide) ?_
                  refine JO.gt (g := 152) rfl rfl rfl ?_
                  refine JO.v (Yv.move rfl) (by decide) ?_
                  refine JO.gt (g := 152) rfl rfl rfl ?_
                  refine JO.v (Yv.as (v' := .bool true) (Yv.not rfl) (by rw [hg149]; rfl)) (by decide) ?_
                  refine JO.gt (g := 152) rfl rfl rfl ?_
                  refine JO.v (Yv.move rfl) (by decide) ?_
                  refine JO.gt (g := 155) rfl rfl rfl ?_
                  refine JO.v (Yv.move rfl) (by decide) ?_
                  refine JO.gt (g := 155) rfl rfl rfl ?_
                  refine JO.v (Yv.move rfl) (by decide) ?_
                  refine JO.gt (g := 155) rfl rfl rfl ?_
                  refine JO.v (Yv.as (v' := it ((ws.length + 1 : Nat) : Int)) (Yv.bin rfl rfl (BinR.add_i (by first | (constructor <;> omega) | (constructor <;> simp <;> omega)))) (congrArg it (by omega))) (by decide) ?_
                  refine JO.gt (g := 155) rfl rfl rfl ?_
                  first | refine JO.v (Yv.indexRow1 Tryd.underlying22 sz_23 rfl rfl (by repeat (first | exact List.Mem.head _ | refine List.Mem.tail _ ?_)) (by first | exact ltb rfl | (simp; done) | (simp; omega) | omega | (simp [*]; omega))) (by decide) ?_ | refine JO.v (Yv.indexRd1 Tryd.underlying22 sz_23 rfl rfl (by repeat (first | exact Lend.same _ _ | exact Lend.row _ _ _ _ _ _ (by decide) | apply Lend.there)) (by first | exact ltb rfl | (simp; done) | (simp; omega) | omega | (simp [*]; omega))) (by decide) ?_
                  refine JO.gt (g := 155) rfl rfl rfl ?_
                  refine JO.v (Yv.load1 one_23 rfl (by first | exact Kn.row (by repeat (first | exact List.Mem.head _ | refine List.Mem.tail _ ?_)) (by exact gm (d := 0) (by omega)) | exact Kn.rd (by repeat (first | exact Lend.same _ _ | exact Lend.row _ _ _ _ _ _ (by decide) | apply Lend.there)) (by exact gm (d := 0) (by omega)))) (by decide) ?_
                  refine JO.gt (g := 155) rfl rfl rfl ?_
                  refine JO.v (Yv.move rfl) (by decide) ?_
                  refine JO.gt (g := 155) rfl rfl rfl ?_
                  refine JO.v (Yv.as (v' := u64 (BitVec.ofNat 64 ws.length)) (Yv.conv_i_u64 Tryd.underlying3 Tryd.underlying23 rfl) (congrArg u64 (by simp))) (by decide) ?_
                  refine JO.gt (g := 155) rfl rfl rfl ?_
                  refine JO.v (Yv.as (v' := .bool true) (Yv.bin rfl rfl (BinR.lss_u64)) (congrArg Value.bool (decide_eq_true (by rw [BitVec.toNat_ofNat, Nat.mod_eq_of_lt (by omega)]; exact fair_some hn hg149)))) (by decide) ?_
                  refine JO.gt (g := 152) rfl rfl rfl ?_
                  refine JO.v (Yv.pick1 rfl rfl rfl) (by decide) ?_
                  refine JO.gt (g := 141) rfl rfl rfl ?_
                  refine JO.v (Yv.pick0 rfl rfl rfl) (by decide) ?_
                  refine JO.v (Yv.pick1 rfl rfl rfl) (by decide) ?_
                  refine JO.v (Yv.assign rfl) (by decide) ?_
                  refine JO.nil ?_
                  refine JQ.then_normal ?_
                  refine JC.ret ?_
                  exact JQ.done (.inr rfl) (Γ' := []) (H' := []) (res1 rfl (RV.tmp rfl)) (Subs.sub (by repeat (first | exact Subs.nil _ | apply Subs.cons | exact List.Mem.head _ | refine List.Mem.tail _ ?_))) (Picks.perm (by repeat (first | exact Picks.nil _ | apply Picks.cons | exact Pull.here _ _ | apply Pull.there))) ⟨rfl, rfl, rfl⟩
end Go.Proofs.YtjjcciefjcfdmaaDoor
