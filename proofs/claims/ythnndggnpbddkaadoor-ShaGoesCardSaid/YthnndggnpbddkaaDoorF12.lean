/- Walk: ShaGoes. -/
import Derived.Test.YthnndggnpbddkaaDoorF9
namespace Go.Proofs.YthnndggnpbddkaaDoor
open Go.RowKit
set_option maxRecDepth 100000
set_option linter.unusedVariables false
set_option linter.unusedSimpArgs false

theorem f3_spec (v : Value) (l : Pcs) :
    Spec Tryd.prog 3 #[v] [Res.var 0 (sqr.map u32), Res.var 1 (cub.map u32), Res.rd v l.length 1 (l.map Prod.fst), Res.all (pcRes l)] []
      (fun r Γ' H' => r = .bool true ∧ Γ' = [] ∧ H' = []) := by
  refine Spec.of_args Tryd.func3 rfl Tryd.ntmps3 (by simp) fun w => ?_
  refine JC.seq ?_
  refine JC.region ?_
  refine JO.v (Yv.assign rfl) (by decide) ?_
  refine JO.nil ?_
  refine JQ.then_normal ?_
  refine JC.seq ?_
  refine JC.region ?_
  refine JO.callB f7_spec body_7 rfl (by repeat (first | exact Picks.nil _ | apply Picks.cons | exact Pull.here _ _ | apply Pull.there)) (by repeat (first | exact Lends.nil _ | apply Lends.cons | exact Lend.same _ _ | exact Lend.row _ _ _ _ _ _ (by decide) | apply Lend.there)) (by rintro _ _ _ ⟨_, h, _⟩; exact h) (by decide) ?_
  rintro _ _ ⟨_, ⟨rfl, _, rfl⟩, hH⟩
  simp only [List.cons_append, List.nil_append] at hH; subst hH
  refine JO.v (Yv.assign rfl) (by decide) ?_
  refine JO.nil ?_
  refine JQ.then_normal ?_
  refine JC.seq ?_
  refine JC.seq ?_
  refine JC.region ?_
  refine JO.v (Yv.move rfl) (by decide) ?_
  first | refine JO.v (Yv.len_s Tryd.underlying22 rfl) (by decide) ?_ | refine JO.v (Yv.lenRd Tryd.underlying22 rfl (by repeat (first | exact Lend.same _ _ | exact Lend.row _ _ _ _ _ _ (by decide) | apply Lend.there))) (by decide) ?_
  refine JO.v (Yv.bin rfl rfl BinR.gtr_i) (by decide) ?_
  refine JO.nil ?_
  refine JQ.then_normal ?_
  refine JC.cond rfl (fun hc1 => ?_) (fun hc1 => ?_)
  · try simp only [decide_eq_true_eq, decide_eq_false_iff_not, Bool.not_eq_true', Bool.not_eq_false', ne_eq, Decidable.not_not, Bool.not_eq_true, Bool.and_eq_true, Bool.or_eq_true, BitVec.reduceToNat] at hc1
    refine JC.seq ?_
    refine JC.region ?_
    refine JO.v (Yv.move rfl) (by decide) ?_
    refine JO.v (Yv.assign rfl) (by decide) ?_
    refine JO.nil ?_
    refine JQ.then_normal ?_
    refine JC.ret ?_
    refine JQ.then_ret ?_
    exact JQ.done (.inr rfl) (Γ' := []) (H' := []) (res1 rfl (RV.tmp rfl)) (Subs.sub (by repeat (first | exact Subs.nil _ | apply Subs.cons | exact List.Mem.head _ | refine List.Mem.tail _ ?_))) (Picks.perm (by repeat (first | exact Picks.nil _ | apply Picks.cons | exact Pull.here _ _ | apply Pull.there))) ⟨rfl, rfl, rfl⟩
  · try simp only [decide_eq_true_eq, decide_eq_false_iff_not, Bool.not_eq_true', Bool.not_eq_false', ne_eq, Decidable.not_not, Bool.not_eq_true, Bool.and_eq_true, Bool.or_eq_true, BitVec.reduceToNat] at hc1
    have hll : l.length ≤ 10 := by omega
    refine JC.skip ?_
    refine JQ.then_normal ?_
    refine JC.seq ?_
    refine JC.region ?_
    refine JO.callB f8_spec body_8 rfl (by repeat (first | exact Picks.nil _ | apply Picks.cons | exact Pull.here _ _ | apply Pull.there)) (by repeat (first | exact Lends.nil _ | apply Lends.cons | exact Lend.same _ _ | exact Lend.row _ _ _ _ _ _ (by decide) | apply Lend.there)) (by rintro _ _ _ ⟨_, _, h, _⟩; exact h) (by decide) ?_
    rintro _ _ ⟨_, ⟨q, rfl, _, rfl⟩, hH⟩
    simp only [List.cons_append, List.nil_append] at hH; subst hH
    rw [show hcells sqr (List.replicate 64 0) 0 = hst [] (List.replicate 64 0) from rfl]
    refine JO.v (Yv.assign rfl) (by decide) ?_
    refine JO.nil ?_
    refine JQ.then_normal ?_
    refine JC.seq ?_
    refine JC.region ?_
    refine JO.v (Yv.build bld_31 rfl rfl) (by decide) ?_
    refine JO.box rfl _ rfl (by decide) fun b21 => ?_
    refine JO.v (Yv.assign rfl) (by decide) ?_
    refine JO.nil ?_
    refine JQ.then_normal ?_
    refine JC.seq ?_
    refine JC.seq ?_
    refine JC.region ?_
    refine JO.v (Yv.move rfl) (by decide) ?_
    refine JO.v (Yv.as (v' := .bool false) (Yv.bin rfl rfl (BinR.eql_p Tryd.underlying24)) rfl) (by decide) ?_
    refine JO.nil ?_
    refine JQ.then_normal ?_
    refine JC.cond rfl (fun hc2 => ?_) (fun hc2 => ?_)
    · try simp only [decide_eq_true_eq, decide_eq_false_iff_not, Bool.not_eq_true', Bool.not_eq_false', ne_eq, Decidable.not_not, Bool.not_eq_true, Bool.and_eq_true, Bool.or_eq_true, BitVec.reduceToNat] at hc2
      exact absurd hc2 (by decide)
    · try simp only [decide_eq_true_eq, decide_eq_false_iff_not, Bool.not_eq_true', Bool.not_eq_false', ne_eq, Decidable.not_not, Bool.not_eq_true, Bool.and_eq_true, Bool.or_eq_true, BitVec.reduceToNat] at hc2
      refine JC.skip ?_
      refine JQ.then_normal ?_
      refine JC.seq ?_
      refine JC.region ?_
      refine JO.v (Yv.assign rfl) (by decide) ?_
      refine JO.nil ?_
      refine JQ.then_normal ?_
      refine JC.seq ?_
      refine JC.seq ?_
      refine JC.region ?_
      refine JO.nilRow 5 1 ?_
      refine JO.v (Yv.assign rfl) (by decide) ?_
      refine JO.nil ?_
      refine JQ.then_normal ?_
      refine JC.block ?_
      refine JC.loop (ι := (Nat × Value) × B8 × B8) (fun x => x.1.1 ≤ l.length ∧ HOK (pcB (l.take x.1.1)) x.2.1 ∧ HOK (pcB (l.take x.1.1)) x.2.2 ∧ (pcB (l.take x.1.1)).length ≤ 200 * x.1.1) (fun x => [(0, v), (3, .bool true), (4, ptr q 0), (5, ptr b21 0), (6, x.1.2), (7, it (x.1.1 : Int))]) (fun x => [Res.var 0 (sqr.map u32), Res.var 1 (cub.map u32), Res.rd v l.length 1 (l.map Prod.fst), Res.all (pcRes l)]) (fun x => [Res.cells q (hst (pcB (l.take x.1.1)) x.2.1) 31, Res.cells b21 (hst (pcB (l.take x.1.1)) x.2.2) 31, Res.row x.1.2 (pcB (l.take x.1.1)).length 5 1 ((pcB (l.take x.1.1)).map u8)]) (fun x => l.length - x.1.1) ((0, .slice none 0 0), List.replicate 64 0, List.replicate 64 0) (by repeat (first | exact trivial | refine ⟨by first | rfl | (simp; done), ?_⟩)) (Subs.sub (by repeat (first | exact Subs.nil _ | apply Subs.cons | exact List.Mem.head _ | refine List.Mem.tail _ ?_))) (Picks.perm (by dsimp only; rw [show pcB (List.take 0 l) = [] from rfl, show hst [] (List.replicate 64 0) = hcells sqr (List.replicate 64 0) 0 from rfl]; repeat (first | exact Picks.nil _ | apply Picks.cons | exact Pull.here _ _ | apply Pull.there))) ?_ (fun x hx => ?_)
      · exact ⟨Nat.zero_le _, hok_nil, hok_nil, Nat.le_refl _⟩
      obtain ⟨⟨k, v6⟩, bs, bs'⟩ := x
      obtain ⟨hk, hok, hok', hkl⟩ := hx
      dsimp only at hk hok hok' hkl ⊢
      refine JC.seq ?_
      refine JC.seq ?_
      refine JC.region ?_
      refine JO.v (Yv.move rfl) (by decide) ?_
      refine JO.v (Yv.move rfl) (by decide) ?_
      first | refine JO.v (Yv.len_s Tryd.underlying22 rfl) (by decide) ?_ | refine JO.v (Yv.lenRd Tryd.underlying22 rfl (by repeat (first | exact Lend.same _ _ | exact Lend.row _ _ _ _ _ _ (by decide) | apply Lend.there))) (by decide) ?_
      refine JO.v (Yv.bin rfl rfl BinR.lss_i) (by decide) ?_
      refine JO.nil ?_
      refine JQ.then_normal ?_
      refine JC.cond rfl (fun hc3 => ?_) (fun hc3 => ?_)
      · try simp only [decide_eq_true_eq, decide_eq_false_iff_not, Bool.not_eq_true', Bool.not_eq_false', ne_eq, Decidable.not_not, Bool.not_eq_true, Bool.and_eq_true, Bool.or_eq_true, BitVec.reduceToNat] at hc3
        refine JC.skip ?_
        refine JQ.then_normal ?_
        refine JC.seq ?_
        refine JC.block ?_
        refine JC.seq ?_
        refine JC.seq ?_
        refine JC.region ?_
        refine JO.v (Yv.move rfl) (by decide) ?_
        refine JO.v (Yv.move rfl) (by decide) ?_
        first | refine JO.v (Yv.indexRow1 Tryd.underlying22 sz_32 rfl rfl (by repeat (first | exact List.Mem.head _ | refine List.Mem.tail _ ?_)) (by first | exact ltb rfl | (simp; done) | (simp; omega) | omega | (simp [*]; omega))) (by decide) ?_ | refine JO.v (Yv.indexRd1 Tryd.underlying22 sz_32 rfl rfl (by repeat (first | exact Lend.same _ _ | exact Lend.row _ _ _ _ _ _ (by decide) | apply Lend.there)) (by first | exact ltb rfl | (simp; done) | (simp; omega) | omega | (simp [*]; omega))) (by decide) ?_
        refine JO.v (Yv.load1 one_32 rfl (by first | exact Kn.own (by repeat (first | exact List.Mem.head _ | refine List.Mem.tail _ ?_)) (by first | exact pc_get (by omega) | rfl | exact tab_get (by first | omega | (simp; omega)) | exact gm (d := 0) (by first | omega | (simp; omega))) | exact Kn.ro (by repeat (first | exact List.Mem.head _ | refine List.Mem.tail _ ?_)) (by first | exact pc_get (by omega) | rfl | exact tab_get (by first | omega | (simp; omega)) | exact gm (d := 0) (by first | omega | (simp; omega))) | exact Kn.row (by repeat (first | exact List.Mem.head _ | refine List.Mem.tail _ ?_)) (by first | exact pc_get (by omega) | rfl | exact tab_get (by first | omega | (simp; omega)) | exact gm (d := 0) (by first | omega | (simp; omega))) | exact Kn.rd (by repeat (first | exact Lend.same _ _ | exact Lend.row _ _ _ _ _ _ (by decide) | apply Lend.there)) (by first | exact pc_get (by omega) | rfl | exact tab_get (by first | omega | (simp; omega)) | exact gm (d := 0) (by first | omega | (simp; omega))) | exact Kn.rd2 (by repeat (first | exact Lend.same _ _ | exact Lend.row _ _ _ _ _ _ (by decide) | apply Lend.there)) (by first | exact pc_get (by omega) | rfl | exact tab_get (by first | omega | (simp; omega)) | exact gm (d := 0) (by first | omega | (simp; omega))) | exact Kn.var (by repeat (first | exact List.Mem.head _ | refine List.Mem.tail _ ?_)) (by first | exact pc_get (by omega) | rfl | exact tab_get (by first | omega | (simp; omega)) | exact gm (d := 0) (by first | omega | (simp; omega))))) (by decide) ?_
        refine JO.open (r := Res.rd (pcAt l k).1 (pcAt l k).2.length 1 ((pcAt l k).2.map u8)) (by repeat (first | exact List.Mem.head _ | refine List.Mem.tail _ ?_)) (pc_res (by omega)) ?_
        first | refine JO.v (Yv.len_s Tryd.underlying32 rfl) (by decide) ?_ | refine JO.v (Yv.lenRd Tryd.underlying32 rfl (by repeat (first | exact Lend.same _ _ | exact Lend.row _ _ _ _ _ _ (by decide) | apply Lend.there))) (by decide) ?_
        refine JO.v (Yv.bin rfl rfl BinR.gtr_i) (by decide) ?_
        refine JO.nil ?_
        refine JQ.then_normal ?_
        refine JC.cond rfl (fun hc4 => ?_) (fun hc4 => ?_)
        · try simp only [decide_eq_true_eq, decide_eq_false_iff_not, Bool.not_eq_true', Bool.not_eq_false', ne_eq, Decidable.not_not, Bool.not_eq_true, Bool.and_eq_true, Bool.or_eq_true, BitVec.reduceToNat] at hc4
          refine JC.seq ?_
          refine JC.region ?_
          refine JO.v (Yv.move rfl) (by decide) ?_
          refine JO.v (Yv.assign rfl) (by decide) ?_
          refine JO.nil ?_
          refine JQ.then_normal ?_
          refine JC.ret ?_
          refine JQ.then_ret ?_
          refine JQ.block_ret ?_
          refine JQ.then_ret ?_
          refine JQ.then_ret ?_
          refine JQ.block_ret ?_
          refine JQ.then_ret ?_
          exact JQ.done (.inr rfl) (Γ' := []) (H' := []) (res1 rfl (RV.tmp rfl)) (Subs.sub (by repeat (first | exact Subs.nil _ | apply Subs.cons | exact List.Mem.head _ | refine List.Mem.tail _ ?_))) (Picks.perm (by repeat (first | exact Picks.nil _ | apply Picks.cons | exact Pull.here _ _ | apply Pull.there))) ⟨rfl, rfl, rfl⟩
        · try simp only [decide_eq_true_eq, decide_eq_false_iff_not, Bool.not_eq_true', Bool.not_eq_false', ne_eq, Decidable.not_not, Bool.not_eq_true, Bool.and_eq_true, Bool.or_eq_true, BitVec.reduceToNat] at hc4
          have hpl : (pcAt l k).2.length ≤ 200 := by omega
          have hsl : (pcB (l.take (k + 1))).length = (pcB (l.take k)).length + (pcAt l k).2.length := by rw [← pcB_succ (by omega), List.length_append]
          refine JC.skip ?_
          refine JQ.then_normal ?_
          refine JC.seq ?_
          refine JC.region ?_
          refine JO.v (Yv.move rfl) (by decide) ?_
          refine JO.callB (f9_spec q (hashN (pcB (l.take k)) ((pcB (l.take k)).length / 64)) bs (BitVec.ofNat 64 (pcB (l.take k)).length) (hashN_len _ _) hok.1) body_9 rfl (by repeat (first | exact Picks.nil _ | apply Picks.cons | exact Pull.here _ _ | apply Pull.there)) (by repeat (first | exact Lends.nil _ | apply Lends.cons | exact Lend.same _ _ | exact Lend.row _ _ _ _ _ _ (by decide) | apply Lend.there)) (by rintro _ _ _ ⟨_, _, h, _⟩; exact h) (by decide) ?_
          rintro _ _ ⟨_, ⟨q2, rfl, _, rfl⟩, hH⟩
          simp only [List.cons_append, List.nil_append] at hH; subst hH
          refine JO.v (Yv.assign rfl) (by decide) ?_
          refine JO.nil ?_
          refine JQ.then_normal ?_
          refine JC.seq ?_
          refine JC.seq ?_
          refine JC.region ?_
          refine JO.v (Yv.move rfl) (by decide) ?_
          refine JO.v (Yv.as (v' := .bool false) (Yv.bin rfl rfl (BinR.eql_p Tryd.underlying24)) rfl) (by decide) ?_
          refine JO.nil ?_
          refine JQ.then_normal ?_
          refine JC.cond rfl (fun hc5 => ?_) (fun hc5 => ?_)
          · try simp only [decide_eq_true_eq, decide_eq_false_iff_not, Bool.not_eq_true', Bool.not_eq_false', ne_eq, Decidable.not_not, Bool.not_eq_true, Bool.and_eq_true, Bool.or_eq_true, BitVec.reduceToNat] at hc5
            exact absurd hc5 (by decide)
          · try simp only [decide_eq_true_eq, decide_eq_false_iff_not, Bool.not_eq_true', Bool.not_eq_false', ne_eq, Decidable.not_not, Bool.not_eq_true, Bool.and_eq_true, Bool.or_eq_true, BitVec.reduceToNat] at hc5
            refine JC.skip ?_
            refine JQ.then_normal ?_
            refine JC.seq ?_
            refine JC.region ?_
            refine JO.v (Yv.move rfl) (by decide) ?_
            refine JO.callB (f10_spec q (pcB (l.take k)) bs hok) body_10 rfl (by repeat (first | exact Picks.nil _ | apply Picks.cons | exact Pull.here _ _ | apply Pull.there)) (by repeat (first | exact Lends.nil _ | apply Lends.cons | exact Lend.same _ _ | exact Lend.row _ _ _ _ _ _ (by decide) | apply Lend.there)) (by rintro _ _ _ ⟨_, h, _⟩; exact h) (by decide) ?_
            rintro _ _ ⟨_, ⟨rfl, _, rfl⟩, hH⟩
            simp only [List.cons_append, List.nil_append] at hH; subst hH
            refine JO.alloc _ zero_34 rfl (by decide) fun b9 => ?_
            first | refine JO.storeAll sz_34 rfl rfl rfl (by first | rfl | (simp; done) | (simp; omega)) (by first | (simp; done) | exact one_map (fun _ => rfl) | exact one_tab (fun _ => rfl) | exact one_tab (fun _ => by split <;> rfl)) (by repeat (first | exact Upd.here _ _ _ | apply Upd.there)) (by first | rfl | (simp; done) | (simp; omega)) ?_ | refine JO.store sz_34 rfl rfl rfl (by first | rfl | (simp; done) | (simp; omega)) (by first | (simp; done) | exact one_sing rfl | exact one_map (fun _ => rfl) | exact one_piece (one_map (fun _ => rfl)) | exact one_tab (fun _ => rfl) | exact one_tab (fun _ => by split <;> rfl)) (by repeat (first | exact Upd.here _ _ _ | apply Upd.there)) (by first | exact ltb rfl | (simp; done) | (simp; omega) | omega | (simp [*]; omega)) ?_ | refine JO.storeRow sz_34 rfl rfl rfl (by first | rfl | simp) (by first | (simp; done) | exact one_map (fun _ => rfl) | exact one_tab (fun _ => rfl) | exact one_tab (fun _ => by split <;> rfl)) (by repeat (first | exact Upd.here _ _ _ | apply Upd.there)) (by first | exact ltb rfl | (simp; done) | (simp; omega) | omega | (simp [*]; omega)) (by first | exact ltb rfl | (simp; done) | (simp; omega) | omega | (simp [*]; omega)) ?_
            refine JO.nil ?_
            refine JQ.then_normal ?_
            refine JC.seq ?_
            refine JC.region ?_
            refine JO.v (Yv.move rfl) (by decide) ?_
            refine JO.lit1 Tryd.underlying32 info_5 rfl rfl (by simp) (by decide) (by decide) (by decide) fun v44 => ?_
            refine JO.callB (f11_spec q2 (pcB (l.take k)) bs hok v44 [1#8, 2#8, 3#8]) body_11 rfl (by repeat (first | exact Picks.nil _ | apply Picks.cons | exact Pull.here _ _ | apply Pull.there)) (by repeat (first | exact Lends.nil _ | apply Lends.cons | exact Lend.same _ _ | exact Lend.row _ _ _ _ _ _ (by decide) | apply Lend.there)) (by rintro _ _ _ ⟨_, _, _, h, _⟩; exact h) (by decide) ?_
            rintro _ _ ⟨_, ⟨bs5, rfl, hok5, _, rfl⟩, hH⟩
            simp only [List.cons_append, List.nil_append] at hH; subst hH
            refine JO.nil ?_
            refine JQ.then_normal ?_
            refine JC.seq ?_
            refine JC.region ?_
            refine JO.v (Yv.move rfl) (by decide) ?_
            refine JO.callB (f10_spec q (pcB (l.take k)) bs hok) body_10 rfl (by repeat (first | exact Picks.nil _ | apply Picks.cons | exact Pull.here _ _ | apply Pull.there)) (by repeat (first | exact Lends.nil _ | apply Lends.cons | exact Lend.same _ _ | exact Lend.row _ _ _ _ _ _ (by decide) | apply Lend.there)) (by rintro _ _ _ ⟨_, h, _⟩; exact h) (by decide) ?_
            rintro _ _ ⟨_, ⟨rfl, _, rfl⟩, hH⟩
            simp only [List.cons_append, List.nil_append] at hH; subst hH
            refine JO.alloc _ zero_34 rfl (by decide) fun b10 => ?_
            first | refine JO.storeAll sz_34 rfl rfl rfl (by first | rfl | (simp; done) | (simp; omega)) (by first | (simp; done) | exact one_map (fun _ => rfl) | exact one_tab (fun _ => rfl) | exact one_tab (fun _ => by split <;> rfl)) (by repeat (first | exact Upd.here _ _ _ | apply Upd.there)) (by first | rfl | (simp; done) | (simp; omega)) ?_ | refine JO.store sz_34 rfl rfl rfl (by first | rfl | (simp; done) | (simp; omega)) (by first | (simp; done) | exact one_sing rfl | exact one_map (fun _ => rfl) | exact one_piece (one_map (fun _ => rfl)) | exact one_tab (fun _ => rfl) | exact one_tab (fun _ => by split <;> rfl)) (by repeat (first | exact Upd.here _ _ _ | apply Upd.there)) (by first | exact ltb rfl | (simp; done) | (simp; omega) | omega | (simp [*]; omega)) ?_ | refine JO.storeRow sz_34 rfl rfl rfl (by first | rfl | simp) (by first | (simp; done) | exact one_map (fun _ => rfl) | exact one_tab (fun _ => rfl) | exact one_tab (fun _ => by split <;> rfl)) (by repeat (first | exact Upd.here _ _ _ | apply Upd.there)) (by first | exact ltb rfl | (simp; done) | (simp; omega) | omega | (simp [*]; omega)) (by first | exact ltb rfl | (simp; done) | (simp; omega) | omega | (simp [*]; omega)) ?_
            refine JO.nil ?_
            refine JQ.then_normal ?_
            refine JC.seq ?_
            refine JC.seq ?_
            refine JC.region ?_
            first | refine JO.v (Yv.loadOwn agg_34 (by repeat (first | exact List.Mem.head _ | refine List.Mem.tail _ ?_)) rfl (by first | rfl | (simp; done) | (simp; omega) | (simp [*]; done))) (by decide) ?_ | refine JO.v (Yv.loadOwnAt agg_34 (by repeat (first | exact List.Mem.head _ | refine List.Mem.tail _ ?_)) rfl (by first | rfl | (simp; done) | (simp; omega) | (simp [*]; done))) (by decide) ?_ | refine JO.v (Yv.loadRow agg_34 (by repeat (first | exact List.Mem.head _ | refine List.Mem.tail _ ?_)) rfl (by first | rfl | (simp; done) | (simp; omega) | (simp [*]; done))) (by decide) ?_ | refine JO.v (Yv.loadRd agg_34 (by repeat (first | exact Lend.same _ _ | exact Lend.row _ _ _ _ _ _ (by decide) | apply Lend.there)) rfl (by first | rfl | (simp; done) | (simp; omega) | (simp [*]; done))) (by decide) ?_ | refine JO.v (Yv.loadRo agg_34 (by repeat (first | exact List.Mem.head _ | refine List.Mem.tail _ ?_)) rfl (by first | rfl | (simp; done) | (simp; omega) | (simp [*]; done))) (by decide) ?_
            first | refine JO.v (Yv.loadOwn agg_34 (by repeat (first | exact List.Mem.head _ | refine List.Mem.tail _ ?_)) rfl (by first | rfl | (simp; done) | (simp; omega) | (simp [*]; done))) (by decide) ?_ | refine JO.v (Yv.loadOwnAt agg_34 (by repeat (first | exact List.Mem.head _ | refine List.Mem.tail _ ?_)) rfl (by first | rfl | (simp; done) | (simp; omega) | (simp [*]; done))) (by decide) ?_ | refine JO.v (Yv.loadRow agg_34 (by repeat (first | exact List.Mem.head _ | refine List.Mem.tail _ ?_)) rfl (by first | rfl | (simp; done) | (simp; omega) | (simp [*]; done))) (by decide) ?_ | refine JO.v (Yv.loadRd agg_34 (by repeat (first | exact Lend.same _ _ | exact Lend.row _ _ _ _ _ _ (by decide) | apply Lend.there)) rfl (by first | rfl | (simp; done) | (simp; omega) | (simp [*]; done))) (by decide) ?_ | refine JO.v (Yv.loadRo agg_34 (by repeat (first | exact List.Mem.head _ | refine List.Mem.tail _ ?_)) rfl (by first | rfl | (simp; done) | (simp; omega) | (simp [*]; done))) (by decide) ?_
            refine JO.v (Yv.as (v' := .bool false) (Yv.bin rfl rfl (neq34 (by simp) (by simp))) (congrArg Value.bool (by simp))) (by decide) ?_
            refine JO.nil ?_
            refine JQ.then_normal ?_
            refine JC.cond rfl (fun hc6 => ?_) (fun hc6 => ?_)
            · try simp only [decide_eq_true_eq, decide_eq_false_iff_not, Bool.not_eq_true', Bool.not_eq_false', ne_eq, Decidable.not_not, Bool.not_eq_true, Bool.and_eq_true, Bool.or_eq_true, BitVec.reduceToNat] at hc6
              exact absurd hc6 (by decide)
            · try simp only [decide_eq_true_eq, decide_eq_false_iff_not, Bool.not_eq_true', Bool.not_eq_false', ne_eq, Decidable.not_not, Bool.not_eq_true, Bool.and_eq_true, Bool.or_eq_true, BitVec.reduceToNat] at hc6
              refine JC.skip ?_
              refine JQ.then_normal ?_
              refine JC.seq ?_
              refine JC.region ?_
              refine JO.v (Yv.move rfl) (by decide) ?_
              refine JO.v (Yv.move rfl) (by decide) ?_
              refine JO.v (Yv.move rfl) (by decide) ?_
              first | refine JO.v (Yv.indexRow1 Tryd.underlying22 sz_32 rfl rfl (by repeat (first | exact List.Mem.head _ | refine List.Mem.tail _ ?_)) (by first | exact ltb rfl | (simp; done) | (simp; omega) | omega | (simp [*]; omega))) (by decide) ?_ | refine JO.v (Yv.indexRd1 Tryd.underlying22 sz_32 rfl rfl (by repeat (first | exact Lend.same _ _ | exact Lend.row _ _ _ _ _ _ (by decide) | apply Lend.there)) (by first | exact ltb rfl | (simp; done) | (simp; omega) | omega | (simp [*]; omega))) (by decide) ?_
              refine JO.v (Yv.load1 one_32 rfl (by first | exact Kn.own (by repeat (first | exact List.Mem.head _ | refine List.Mem.tail _ ?_)) (by first | exact pc_get (by omega) | rfl | exact tab_get (by first | omega | (simp; omega)) | exact gm (d := 0) (by first | omega | (simp; omega))) | exact Kn.ro (by repeat (first | exact List.Mem.head _ | refine List.Mem.tail _ ?_)) (by first | exact pc_get (by omega) | rfl | exact tab_get (by first | omega | (simp; omega)) | exact gm (d := 0) (by first | omega | (simp; omega))) | exact Kn.row (by repeat (first | exact List.Mem.head _ | refine List.Mem.tail _ ?_)) (by first | exact pc_get (by omega) | rfl | exact tab_get (by first | omega | (simp; omega)) | exact gm (d := 0) (by first | omega | (simp; omega))) | exact Kn.rd (by repeat (first | exact Lend.same _ _ | exact Lend.row _ _ _ _ _ _ (by decide) | apply Lend.there)) (by first | exact pc_get (by omega) | rfl | exact tab_get (by first | omega | (simp; omega)) | exact gm (d := 0) (by first | omega | (simp; omega))) | exact Kn.rd2 (by repeat (first | exact Lend.same _ _ | exact Lend.row _ _ _ _ _ _ (by decide) | apply Lend.there)) (by first | exact pc_get (by omega) | rfl | exact tab_get (by first | omega | (simp; omega)) | exact gm (d := 0) (by first | omega | (simp; omega))) | exact Kn.var (by repeat (first | exact List.Mem.head _ | refine List.Mem.tail _ ?_)) (by first | exact pc_get (by omega) | rfl | exact tab_get (by first | omega | (simp; omega)) | exact gm (d := 0) (by first | omega | (simp; omega))))) (by decide) ?_
              refine JO.callB (f11_spec q (pcB (l.take k)) bs hok (pcAt l k).1 (pcAt l k).2) body_11 rfl (by repeat (first | exact Picks.nil _ | apply Picks.cons | exact Pull.here _ _ | apply Pull.there)) (by repeat (first | exact Lends.nil _ | apply Lends.cons | exact Lend.same _ _ | exact Lend.row _ _ _ _ _ _ (by decide) | apply Lend.there)) (by rintro _ _ _ ⟨_, _, _, h, _⟩; exact h) (by decide) ?_
              rintro _ _ ⟨_, ⟨bs1, rfl, hok1, _, rfl⟩, hH⟩
              simp only [List.cons_append, List.nil_append] at hH; subst hH
              rw [pcB_succ (by omega)] at hok1 ⊢
              refine JO.nil ?_
              refine JQ.then_normal ?_
              refine JC.seq ?_
              refine JC.region ?_
              refine JO.v (Yv.move rfl) (by decide) ?_
              refine JO.v (Yv.move rfl) (by decide) ?_
              refine JO.v (Yv.move rfl) (by decide) ?_
              first | refine JO.v (Yv.indexRow1 Tryd.underlying22 sz_32 rfl rfl (by repeat (first | exact List.Mem.head _ | refine List.Mem.tail _ ?_)) (by first | exact ltb rfl | (simp; done) | (simp; omega) | omega | (simp [*]; omega))) (by decide) ?_ | refine JO.v (Yv.indexRd1 Tryd.underlying22 sz_32 rfl rfl (by repeat (first | exact Lend.same _ _ | exact Lend.row _ _ _ _ _ _ (by decide) | apply Lend.there)) (by first | exact ltb rfl | (simp; done) | (simp; omega) | omega | (simp [*]; omega))) (by decide) ?_
              refine JO.v (Yv.load1 one_32 rfl (by first | exact Kn.own (by repeat (first | exact List.Mem.head _ | refine List.Mem.tail _ ?_)) (by first | exact pc_get (by omega) | rfl | exact tab_get (by first | omega | (simp; omega)) | exact gm (d := 0) (by first | omega | (simp; omega))) | exact Kn.ro (by repeat (first | exact List.Mem.head _ | refine List.Mem.tail _ ?_)) (by first | exact pc_get (by omega) | rfl | exact tab_get (by first | omega | (simp; omega)) | exact gm (d := 0) (by first | omega | (simp; omega))) | exact Kn.row (by repeat (first | exact List.Mem.head _ | refine List.Mem.tail _ ?_)) (by first | exact pc_get (by omega) | rfl | exact tab_get (by first | omega | (simp; omega)) | exact gm (d := 0) (by first | omega | (simp; omega))) | exact Kn.rd (by repeat (first | exact Lend.same _ _ | exact Lend.row _ _ _ _ _ _ (by decide) | apply Lend.there)) (by first | exact pc_get (by omega) | rfl | exact tab_get (by first | omega | (simp; omega)) | exact gm (d := 0) (by first | omega | (simp; omega))) | exact Kn.rd2 (by repeat (first | exact Lend.same _ _ | exact Lend.row _ _ _ _ _ _ (by decide) | apply Lend.there)) (by first | exact pc_get (by omega) | rfl | exact tab_get (by first | omega | (simp; omega)) | exact gm (d := 0) (by first | omega | (simp; omega))) | exact Kn.var (by repeat (first | exact List.Mem.head _ | refine List.Mem.tail _ ?_)) (by first | exact pc_get (by omega) | rfl | exact tab_get (by first | omega | (simp; omega)) | exact gm (d := 0) (by first | omega | (simp; omega))))) (by decide) ?_
              refine JO.callB (f11_spec b21 (pcB (l.take k)) bs' hok' (pcAt l k).1 (pcAt l k).2) body_11 rfl (by repeat (first | exact Picks.nil _ | apply Picks.cons | exact Pull.here _ _ | apply Pull.there)) (by repeat (first | exact Lends.nil _ | apply Lends.cons | exact Lend.same _ _ | exact Lend.row _ _ _ _ _ _ (by decide) | apply Lend.there)) (by rintro _ _ _ ⟨_, _, _, h, _⟩; exact h) (by decide) ?_
              rintro _ _ ⟨_, ⟨bs2, rfl, hok2, _, rfl⟩, hH⟩
              simp only [List.cons_append, List.nil_append] at hH; subst hH
              rw [pcB_succ (by omega)] at hok2 ⊢
              refine JO.nil ?_
              refine JQ.then_normal ?_
              refine JC.seq ?_
              refine JC.region ?_
              refine JO.v (Yv.move rfl) (by decide) ?_
              refine JO.v (Yv.move rfl) (by decide) ?_
              refine JO.v (Yv.move rfl) (by decide) ?_
              first | refine JO.v (Yv.indexRow1 Tryd.underlying22 sz_32 rfl rfl (by repeat (first | exact List.Mem.head _ | refine List.Mem.tail _ ?_)) (by first | exact ltb rfl | (simp; done) | (simp; omega) | omega | (simp [*]; omega))) (by decide) ?_ | refine JO.v (Yv.indexRd1 Tryd.underlying22 sz_32 rfl rfl (by repeat (first | exact Lend.same _ _ | exact Lend.row _ _ _ _ _ _ (by decide) | apply Lend.there)) (by first | exact ltb rfl | (simp; done) | (simp; omega) | omega | (simp [*]; omega))) (by decide) ?_
              refine JO.v (Yv.load1 one_32 rfl (by first | exact Kn.own (by repeat (first | exact List.Mem.head _ | refine List.Mem.tail _ ?_)) (by first | exact pc_get (by omega) | rfl | exact tab_get (by first | omega | (simp; omega)) | exact gm (d := 0) (by first | omega | (simp; omega))) | exact Kn.ro (by repeat (first | exact List.Mem.head _ | refine List.Mem.tail _ ?_)) (by first | exact pc_get (by omega) | rfl | exact tab_get (by first | omega | (simp; omega)) | exact gm (d := 0) (by first | omega | (simp; omega))) | exact Kn.row (by repeat (first | exact List.Mem.head _ | refine List.Mem.tail _ ?_)) (by first | exact pc_get (by omega) | rfl | exact tab_get (by first | omega | (simp; omega)) | exact gm (d := 0) (by first | omega | (simp; omega))) | exact Kn.rd (by repeat (first | exact Lend.same _ _ | exact Lend.row _ _ _ _ _ _ (by decide) | apply Lend.there)) (by first | exact pc_get (by omega) | rfl | exact tab_get (by first | omega | (simp; omega)) | exact gm (d := 0) (by first | omega | (simp; omega))) | exact Kn.rd2 (by repeat (first | exact Lend.same _ _ | exact Lend.row _ _ _ _ _ _ (by decide) | apply Lend.there)) (by first | exact pc_get (by omega) | rfl | exact tab_get (by first | omega | (simp; omega)) | exact gm (d := 0) (by first | omega | (simp; omega))) | exact Kn.var (by repeat (first | exact List.Mem.head _ | refine List.Mem.tail _ ?_)) (by first | exact pc_get (by omega) | rfl | exact tab_get (by first | omega | (simp; omega)) | exact gm (d := 0) (by first | omega | (simp; omega))))) (by decide) ?_
              refine JO.append Tryd.underlying32 info_5 rfl (by decide) rfl rfl (by repeat (first | exact Pull.here _ _ | apply Pull.there)) (by first | exact Src.nil | exact Src.rd (by repeat (first | exact Lend.same _ _ | exact Lend.row _ _ _ _ _ _ (by decide) | apply Lend.there)) (by decide) | exact Src.cells (by repeat (first | exact List.Mem.head _ | refine List.Mem.tail _ ?_)) (by simp)) (by first | (simp; done) | exact one_sing rfl | exact one_map (fun _ => rfl) | exact one_piece (one_map (fun _ => rfl)) | exact one_tab (fun _ => rfl) | exact one_tab (fun _ => by split <;> rfl)) (by unfold maxLen; omega) (by omega) (by decide) fun v68 => ?_
              rw [map_cat, len_cat, pcB_succ (by omega)]
              refine JO.v (Yv.assign rfl) (by decide) ?_
              refine JO.nil ?_
              refine JQ.then_normal ?_
              refine JC.seq ?_
              refine JC.region ?_
              refine JO.v (Yv.move rfl) (by decide) ?_
              refine JO.callB (f10_spec q (pcB (l.take (k + 1))) bs1 hok1) body_10 rfl (by repeat (first | exact Picks.nil _ | apply Picks.cons | exact Pull.here _ _ | apply Pull.there)) (by repeat (first | exact Lends.nil _ | apply Lends.cons | exact Lend.same _ _ | exact Lend.row _ _ _ _ _ _ (by decide) | apply Lend.there)) (by rintro _ _ _ ⟨_, h, _⟩; exact h) (by decide) ?_
              rintro _ _ ⟨_, ⟨rfl, _, rfl⟩, hH⟩
              simp only [List.cons_append, List.nil_append] at hH; subst hH
              refine JO.alloc _ zero_34 rfl (by decide) fun b11 => ?_
              first | refine JO.storeAll sz_34 rfl rfl rfl (by first | rfl | (simp; done) | (simp; omega)) (by first | (simp; done) | exact one_map (fun _ => rfl) | exact one_tab (fun _ => rfl) | exact one_tab (fun _ => by split <;> rfl)) (by repeat (first | exact Upd.here _ _ _ | apply Upd.there)) (by first | rfl | (simp; done) | (simp; omega)) ?_ | refine JO.store sz_34 rfl rfl rfl (by first | rfl | (simp; done) | (simp; omega)) (by first | (simp; done) | exact one_sing rfl | exact one_map (fun _ => rfl) | exact one_piece (one_map (fun _ => rfl)) | exact one_tab (fun _ => rfl) | exact one_tab (fun _ => by split <;> rfl)) (by repeat (first | exact Upd.here _ _ _ | apply Upd.there)) (by first | exact ltb rfl | (simp; done) | (simp; omega) | omega | (simp [*]; omega)) ?_ | refine JO.storeRow sz_34 rfl rfl rfl (by first | rfl | simp) (by first | (simp; done) | exact one_map (fun _ => rfl) | exact one_tab (fun _ => rfl) | exact one_tab (fun _ => by split <;> rfl)) (by repeat (first | exact Upd.here _ _ _ | apply Upd.there)) (by first | exact ltb rfl | (simp; done) | (simp; omega) | omega | (simp [*]; omega)) (by first | exact ltb rfl | (simp; done) | (simp; omega) | omega | (simp [*]; omega)) ?_
              refine JO.nil ?_
              refine JQ.then_normal ?_
              refine JC.seq ?_
              refine JC.region ?_
              refine JO.v (Yv.move rfl) (by decide) ?_
              refine JO.callB (f10_spec b21 (pcB (l.take (k + 1))) bs2 hok2) body_10 rfl (by repeat (first | exact Picks.nil _ | apply Picks.cons | exact Pull.here _ _ | apply Pull.there)) (by repeat (first | exact Lends.nil _ | apply Lends.cons | exact Lend.same _ _ | exact Lend.row _ _ _ _ _ _ (by decide) | apply Lend.there)) (by rintro _ _ _ ⟨_, h, _⟩; exact h) (by decide) ?_
              rintro _ _ ⟨_, ⟨rfl, _, rfl⟩, hH⟩
              simp only [List.cons_append, List.nil_append] at hH; subst hH
              refine JO.alloc _ zero_34 rfl (by decide) fun b12 => ?_
              first | refine JO.storeAll sz_34 rfl rfl rfl (by first | rfl | (simp; done) | (simp; omega)) (by first | (simp; done) | exact one_map (fun _ => rfl) | exact one_tab (fun _ => rfl) | exact one_tab (fun _ => by split <;> rfl)) (by repeat (first | exact Upd.here _ _ _ | apply Upd.there)) (by first | rfl | (simp; done) | (simp; omega)) ?_ | refine JO.store sz_34 rfl rfl rfl (by first | rfl | (simp; done) | (simp; omega)) (by first | (simp; done) | exact one_sing rfl | exact one_map (fun _ => rfl) | exact one_piece (one_map (fun _ => rfl)) | exact one_tab (fun _ => rfl) | exact one_tab (fun _ => by split <;> rfl)) (by repeat (first | exact Upd.here _ _ _ | apply Upd.there)) (by first | exact ltb rfl | (simp; done) | (simp; omega) | omega | (simp [*]; omega)) ?_ | refine JO.storeRow sz_34 rfl rfl rfl (by first | rfl | simp) (by first | (simp; done) | exact one_map (fun _ => rfl) | exact one_tab (fun _ => rfl) | exact one_tab (fun _ => by split <;> rfl)) (by repeat (first | exact Upd.here _ _ _ | apply Upd.there)) (by first | exact ltb rfl | (simp; done) | (simp; omega) | omega | (simp [*]; omega)) (by first | exact ltb rfl | (simp; done) | (simp; omega) | omega | (simp [*]; omega)) ?_
              refine JO.nil ?_
              refine JQ.then_normal ?_
              refine JC.seq ?_
              refine JC.region ?_
              refine JO.v (Yv.move rfl) (by decide) ?_
              refine JO.callB (f12_spec q (hashN (pcB (l.take (k + 1))) ((pcB (l.take (k + 1))).length / 64)) bs1 (BitVec.ofNat 64 (pcB (l.take (k + 1))).length) (hashN_len _ _) hok1.1) body_12 rfl (by repeat (first | exact Picks.nil _ | apply Picks.cons | exact Pull.here _ _ | apply Pull.there)) (by repeat (first | exact Lends.nil _ | apply Lends.cons | exact Lend.same _ _ | exact Lend.row _ _ _ _ _ _ (by decide) | apply Lend.there)) (by rintro _ _ _ ⟨_, h, _⟩; exact h) (by decide) ?_
              rintro _ _ ⟨_, ⟨rfl, _, rfl⟩, hH⟩
              simp only [List.cons_append, List.nil_append] at hH; subst hH
              refine JO.v (Yv.assign rfl) (by decide) ?_
              refine JO.nil ?_
              refine JQ.then_normal ?_
              refine JC.seq ?_
              refine JC.draw (.one 0 (.one 1 (.one 2 (.one 3 (.one 4 (.one 5 (.one 6 (.one 7 (.one 8 (.one 9 (.one 10 (.one 11 (.one 12 (.one 13 (.one 14 (.one 15 .nil)))))))))))))))) (fun i => ([] : List Nat).contains i) (fun i => ([2] : List Nat).contains i) (fun i => ([1, 3, 4, 7, 8, 9, 10, 11, 13, 14, 15] : List Nat).contains i) mixed (by kernel_rfl) (by decide) (by kernel_rfl) ?_
              first | refine JR.v rfl rfl rfl (Yv.loadOwn agg_34 (by repeat (first | exact List.Mem.head _ | refine List.Mem.tail _ ?_)) rfl (by first | rfl | (simp; done) | (simp; omega) | (simp [*]; done))) (by decide) ?_ | refine JR.v rfl rfl rfl (Yv.loadOwnAt agg_34 (by repeat (first | exact List.Mem.head _ | refine List.Mem.tail _ ?_)) rfl (by first | rfl | (simp; done) | (simp; omega) | (simp [*]; done))) (by decide) ?_ | refine JR.v rfl rfl rfl (Yv.loadRow agg_34 (by repeat (first | exact List.Mem.head _ | refine List.Mem.tail _ ?_)) rfl (by first | rfl | (simp; done) | (simp; omega) | (simp [*]; done))) (by decide) ?_ | refine JR.v rfl rfl rfl (Yv.loadRd agg_34 (by repeat (first | exact Lend.same _ _ | exact Lend.row _ _ _ _ _ _ (by decide) | apply Lend.there)) rfl (by first | rfl | (simp; done) | (simp; omega) | (simp [*]; done))) (by decide) ?_ | refine JR.v rfl rfl rfl (Yv.loadRo agg_34 (by repeat (first | exact List.Mem.head _ | refine List.Mem.tail _ ?_)) rfl (by first | rfl | (simp; done) | (simp; omega) | (simp [*]; done))) (by decide) ?_
              refine JR.u rfl rfl rfl (Yv.move rfl) (by decide) ?_
              refine JR.m rfl rfl (Mv.callB body_13 rfl (f13_spec v68 (pcB (l.take (k + 1))) (by omega)) (by repeat (first | exact Picks.nil _ | apply Picks.cons | exact Pull.here _ _ | apply Pull.there)) (by repeat (first | exact Lends.nil _ | apply Lends.cons | exact Lend.same _ _ | exact Lend.row _ _ _ _ _ _ (by decide) | apply Lend.there)) (by rintro _ _ _ ⟨_, h, _⟩; exact h)) (by decide) ?_
              rintro _ _ _ ⟨_, ⟨rfl, _, rfl⟩, hΓ, hH⟩
              simp only [List.cons_append, List.nil_append] at hH; subst hΓ hH
              refine ⟨⟨Subs.sub (by repeat (first | exact Subs.nil _ | apply Subs.cons | exact List.Mem.head _ | refine List.Mem.tail _ ?_)), .inr (St.keep (by repeat (first | exact Subs.nil _ | apply Subs.cons | exact List.Mem.head _ | refine List.Mem.tail _ ?_)) (by repeat (first | exact Picks.nil _ | apply Picks.cons | exact Pull.here _ _ | apply Pull.there)))⟩, ?_⟩
              refine JR.u rfl rfl rfl (Yv.as (v' := .bool false) (Yv.bin rfl rfl (neq34 (by simp) (by simp))) (congrArg Value.bool (by simp))) (by decide) ?_
              refine JR.u rfl rfl rfl (Yv.move rfl) (by decide) ?_
              first | refine JR.vgt (g := 79) rfl rfl rfl rfl rfl rfl (Yv.loadOwn agg_34 (by repeat (first | exact List.Mem.head _ | refine List.Mem.tail _ ?_)) rfl (by first | rfl | (simp; done) | (simp; omega) | (simp [*]; done))) (by decide) ?_ | refine JR.vgt (g := 79) rfl rfl rfl rfl rfl rfl (Yv.loadOwnAt agg_34 (by repeat (first | exact List.Mem.head _ | refine List.Mem.tail _ ?_)) rfl (by first | rfl | (simp; done) | (simp; omega) | (simp [*]; done))) (by decide) ?_ | refine JR.vgt (g := 79) rfl rfl rfl rfl rfl rfl (Yv.loadRow agg_34 (by repeat (first | exact List.Mem.head _ | refine List.Mem.tail _ ?_)) rfl (by first | rfl | (simp; done) | (simp; omega) | (simp [*]; done))) (by decide) ?_ | refine JR.vgt (g := 79) rfl rfl rfl rfl rfl rfl (Yv.loadRd agg_34 (by repeat (first | exact Lend.same _ _ | exact Lend.row _ _ _ _ _ _ (by decide) | apply Lend.there)) rfl (by first | rfl | (simp; done) | (simp; omega) | (simp [*]; done))) (by decide) ?_ | refine JR.vgt (g := 79) rfl rfl rfl rfl rfl rfl (Yv.loadRo agg_34 (by repeat (first | exact List.Mem.head _ | refine List.Mem.tail _ ?_)) rfl (by first | rfl | (simp; done) | (simp; omega) | (simp [*]; done))) (by decide) ?_
              first | refine JR.vgt (g := 79) rfl rfl rfl rfl rfl rfl (Yv.loadOwn agg_34 (by repeat (first | exact List.Mem.head _ | refine List.Mem.tail _ ?_)) rfl (by first | rfl | (simp; done) | (simp; omega) | (simp [*]; done))) (by decide) ?_ | refine JR.vgt (g := 79) rfl rfl rfl rfl rfl rfl (Yv.loadOwnAt agg_34 (by repeat (first | exact List.Mem.head _ | refine List.Mem.tail _ ?_)) rfl (by first | rfl | (simp; done) | (simp; omega) | (simp [*]; done))) (by decide) ?_ | refine JR.vgt (g := 79) rfl rfl rfl rfl rfl rfl (Yv.loadRow agg_34 (by repeat (first | exact List.Mem.head _ | refine List.Mem.tail _ ?_)) rfl (by first | rfl | (simp; done) | (simp; omega) | (simp [*]; done))) (by decide) ?_ | refine JR.vgt (g := 79) rfl rfl rfl rfl rfl rfl (Yv.loadRd agg_34 (by repeat (first | exact Lend.same _ _ | exact Lend.row _ _ _ _ _ _ (by decide) | apply Lend.there)) rfl (by first | rfl | (simp; done) | (simp; omega) | (simp [*]; done))) (by decide) ?_ | refine JR.vgt (g := 79) rfl rfl rfl rfl rfl rfl (Yv.loadRo agg_34 (by repeat (first | exact List.Mem.head _ | refine List.Mem.tail _ ?_)) rfl (by first | rfl | (simp; done) | (simp; omega) | (simp [*]; done))) (by decide) ?_
              refine JR.ugt (g := 79) rfl rfl rfl rfl rfl rfl (Yv.as (v' := .bool false) (Yv.bin rfl rfl (neq34 (by simp) (by simp))) (congrArg Value.bool (by simp))) (by decide) ?_
              refine JR.u rfl rfl rfl (Yv.pick0 rfl rfl rfl) (by decide) ?_
              refine JR.u rfl rfl rfl (Yv.move rfl) (by decide) ?_
              refine JR.ugt (g := 84) rfl rfl rfl rfl rfl rfl (Yv.move rfl) (by decide) ?_
              refine JR.ugt (g := 84) rfl rfl rfl rfl rfl rfl (Yv.move rfl) (by decide) ?_
              first | refine JR.vgt (g := 84) rfl rfl rfl rfl rfl rfl (Yv.len_s Tryd.underlying32 rfl) (by decide) ?_ | refine JR.vgt (g := 84) rfl rfl rfl rfl rfl rfl (Yv.lenRd Tryd.underlying32 rfl (by repeat (first | exact Lend.same _ _ | exact Lend.row _ _ _ _ _ _ (by decide) | apply Lend.there))) (by decide) ?_
              refine JR.ugt (g := 84) rfl rfl rfl rfl rfl rfl (Yv.as (v' := u64 (BitVec.ofNat 64 (pcB (l.take (k + 1))).length)) (Yv.conv_i_u64 Tryd.underlying3 Tryd.underlying29 rfl) (congrArg u64 (by simp))) (by decide) ?_
              refine JR.ugt (g := 84) rfl rfl rfl rfl rfl rfl (Yv.as (v' := .bool false) (Yv.bin rfl rfl (BinR.neq_u64)) (congrArg Value.bool (by simp))) (by decide) ?_
              refine JR.u rfl rfl rfl (Yv.pick0 rfl rfl rfl) (by decide) ?_
              refine JR.nil ?_
              refine JQ.then_normal ?_
              refine JC.cond rfl (fun hc7 => ?_) (fun hc7 => ?_)
              · try simp only [decide_eq_true_eq, decide_eq_false_iff_not, Bool.not_eq_true', Bool.not_eq_false', ne_eq, Decidable.not_not, Bool.not_eq_true, Bool.and_eq_true, Bool.or_eq_true, BitVec.reduceToNat] at hc7
                exact absurd hc7 (by decide)
              · try simp only [decide_eq_true_eq, decide_eq_false_iff_not, Bool.not_eq_true', Bool.not_eq_false', ne_eq, Decidable.not_not, Bool.not_eq_true, Bool.and_eq_true, Bool.or_eq_true, BitVec.reduceToNat] at hc7
                refine JC.skip ?_
                refine JQ.block_normal ?_
                refine JQ.then_normal ?_
                refine JC.region ?_
                refine JO.v (Yv.move rfl) (by decide) ?_
                refine JO.v (Yv.bin rfl rfl (BinR.add_i (by first | (constructor <;> omega) | (constructor <;> simp <;> omega)))) (by decide) ?_
                refine JO.v (Yv.assign rfl) (by decide) ?_
                refine JO.nil ?_
                refine JQ.head ((k + 1, _), bs1, bs2) (by repeat (first | exact trivial | refine ⟨by first | rfl | (simp; done), ?_⟩)) (Subs.sub (by repeat (first | exact Subs.nil _ | apply Subs.cons | exact List.Mem.head _ | refine List.Mem.tail _ ?_))) (Picks.perm (by repeat (first | exact Picks.nil _ | apply Picks.cons | exact Pull.here _ _ | apply Pull.there))) ?_
                exact ⟨⟨by dsimp only; omega, hok1, hok2, by dsimp only; omega⟩, by dsimp only; omega⟩
      · try simp only [decide_eq_true_eq, decide_eq_false_iff_not, Bool.not_eq_true', Bool.not_eq_false', ne_eq, Decidable.not_not, Bool.not_eq_true, Bool.and_eq_true, Bool.or_eq_true, BitVec.reduceToNat] at hc3
        refine JC.exit ?_
        refine JQ.then_exit ?_
        refine JQ.then_exit ?_
        refine JQ.block_exit ?_
        refine JQ.then_normal ?_
        refine JC.seq ?_
        refine JC.region ?_
        refine JO.v (Yv.move rfl) (by decide) ?_
        refine JO.v (Yv.assign rfl) (by decide) ?_
        refine JO.nil ?_
        refine JQ.then_normal ?_
        refine JC.ret ?_
        exact JQ.done (.inr rfl) (Γ' := []) (H' := []) (res1 rfl (RV.tmp rfl)) (Subs.sub (by repeat (first | exact Subs.nil _ | apply Subs.cons | exact List.Mem.head _ | refine List.Mem.tail _ ?_))) (Picks.perm (by repeat (first | exact Picks.nil _ | apply Picks.cons | exact Pull.here _ _ | apply Pull.there))) ⟨rfl, rfl, rfl⟩
end Go.Proofs.YthnndggnpbddkaaDoor
