/- Walk: a pot shared out. -/
import Derived.Test.YtjjcciefjcfdmaaDoorF5
namespace Go.Proofs.YtjjcciefjcfdmaaDoor
open Go.RowKit
set_option maxRecDepth 100000
set_option linter.unusedVariables false
set_option linter.unusedSimpArgs false

theorem f10_spec (p : Nat) (v u : Value) (l ws : List W64) (f r0 : Int) :
    Spec Tryd.prog 10 #[(ptr p 0), (it f), (it r0), u] [Res.rd u ws.length 1 (ws.map u64)] [Res.cells p [v] 57, Res.row v l.length 23 1 (l.map u64)]
      (fun r Γ' H' => r = (it (spreadE l f r0 ws)) ∧ Γ' = [] ∧ H' = [Res.cells p [v] 57, Res.row v (spreadL l f r0 ws).length 23 1 ((spreadL l f r0 ws).map u64)]) := by
  refine Spec.of_args Tryd.func10 rfl Tryd.ntmps10 (by simp) fun w => ?_
  refine JC.know (φ := ws.length ≤ 9223372036854775807) (fun w hs => by obtain ⟨_, _, _, _, _, _, h⟩ := hs.rdForm (.head _); unfold maxLen at h; omega) fun hll => ?_
  refine JC.seq ?_
  refine JC.region ?_
  refine JO.v (Yv.assign rfl) (by decide) ?_
  refine JO.nil ?_
  refine JQ.then_normal ?_
  refine JC.seq ?_
  refine JC.seq ?_
  refine JC.region ?_
  refine JO.v (Yv.move rfl) (by decide) ?_
  refine JO.v (Yv.move rfl) (by decide) ?_
  refine JO.v (Yv.move rfl) (by decide) ?_
  refine JO.lit1 Tryd.underlying62 info_3 rfl rfl (by simp) (by decide) (by decide) (by decide) fun v18 => ?_
  refine JO.callB (f28_spec p l.length v v18 (l.map u64) [f, r0]) body_28 rfl (by repeat (first | exact Picks.nil _ | apply Picks.cons | exact Pull.here _ _ | apply Pull.there)) (by repeat (first | exact Lends.nil _ | apply Lends.cons | exact Lend.same _ _ | exact Lend.row _ _ _ _ _ _ (by decide) | apply Lend.there)) (by rintro _ _ _ ⟨_, h, _⟩; exact h) (by decide) ?_
  rintro _ _ ⟨_, ⟨rfl, _, rfl⟩, hH⟩
  simp only [List.cons_append, List.nil_append] at hH; subst hH
  refine JO.v (Yv.not rfl) (by decide) ?_
  refine JO.v (Yv.move rfl) (by decide) ?_
  refine JO.join 9 30 (.bool (!(okA l.length [f, r0] && decide (ws.length = l.length)))) ?_ ?_
  · skip
    refine JO.gsplit (g := 20) rfl (fun hg9 => ?_) (fun hg9 => ?_)
    · have hg9' := hg9
      try simp only [decide_eq_true_eq, decide_eq_false_iff_not, Bool.not_eq_true', Bool.not_eq_false', ne_eq, Decidable.not_not, Bool.not_eq_true, Bool.and_eq_true, Bool.or_eq_true, BitVec.reduceToNat] at hg9'
      refine JO.gf (g := 21) rfl rfl hg9 (by decide) ?_
      refine JO.gf (g := 21) rfl rfl hg9 (by decide) ?_
      refine JO.gf (g := 21) rfl rfl hg9 (by decide) ?_
      refine JO.gf (g := 21) rfl rfl hg9 (by decide) ?_
      refine JO.gf (g := 21) rfl rfl hg9 (by decide) ?_
      refine JO.gf (g := 21) rfl rfl hg9 (by decide) ?_
      refine JO.gf (g := 21) rfl rfl hg9 (by decide) ?_
      refine JO.gf (g := 21) rfl rfl hg9 (by decide) ?_
      refine JO.v (Yv.pick1 rfl hg9 rfl) (by decide) ?_
      refine JO.nil ?_
      refine JQ.head () (by first | (refine ⟨by first | rfl | (simp [*]; done) | (show some _ = some _; simp [*]; done), ?_⟩; repeat (first | exact trivial | refine ⟨rfl, ?_⟩))) (Subs.sub (by repeat (first | exact Subs.nil _ | apply Subs.cons | exact List.Mem.head _ | refine List.Mem.tail _ ?_))) (Picks.perm (by repeat (first | exact Picks.nil _ | apply Picks.cons | exact Pull.here _ _ | apply Pull.there))) ?_
      trivial
    · have hg9' := hg9
      try simp only [decide_eq_true_eq, decide_eq_false_iff_not, Bool.not_eq_true', Bool.not_eq_false', ne_eq, Decidable.not_not, Bool.not_eq_true, Bool.and_eq_true, Bool.or_eq_true, BitVec.reduceToNat] at hg9'
      refine JO.gt (g := 21) rfl rfl hg9 ?_
      refine JO.v (Yv.move rfl) (by decide) ?_
      refine JO.gt (g := 21) rfl rfl hg9 ?_
      first | refine JO.v (Yv.len_s Tryd.underlying22 rfl) (by decide) ?_ | refine JO.v (Yv.lenRd Tryd.underlying22 rfl (by repeat (first | exact Lend.same _ _ | exact Lend.row _ _ _ _ _ _ (by decide) | apply Lend.there))) (by decide) ?_
      refine JO.gt (g := 21) rfl rfl hg9 ?_
      refine JO.v (Yv.move rfl) (by decide) ?_
      refine JO.gt (g := 21) rfl rfl hg9 ?_
      refine JO.v (Yv.nilCheck rfl) (by decide) ?_
      refine JO.gt (g := 21) rfl rfl hg9 ?_
      refine JO.v (Yv.fieldAddr fa_57_0 rfl) (by decide) ?_
      refine JO.gt (g := 21) rfl rfl hg9 ?_
      refine JO.v (Yv.load1 one_22 rfl (by first | exact Kn.own (by repeat (first | exact List.Mem.head _ | refine List.Mem.tail _ ?_)) (by first  | rfl | exact tab_get (by first | omega | (simp; omega)) | exact gm (d := 0) (by first | omega | (simp; omega))) | exact Kn.ro (by repeat (first | exact List.Mem.head _ | refine List.Mem.tail _ ?_)) (by first  | rfl | exact tab_get (by first | omega | (simp; omega)) | exact gm (d := 0) (by first | omega | (simp; omega))) | exact Kn.row (by repeat (first | exact List.Mem.head _ | refine List.Mem.tail _ ?_)) (by first  | rfl | exact tab_get (by first | omega | (simp; omega)) | exact gm (d := 0) (by first | omega | (simp; omega))) | exact Kn.rd (by repeat (first | exact Lend.same _ _ | exact Lend.row _ _ _ _ _ _ (by decide) | apply Lend.there)) (by first  | rfl | exact tab_get (by first | omega | (simp; omega)) | exact gm (d := 0) (by first | omega | (simp; omega))) | exact Kn.rd2 (by repeat (first | exact Lend.same _ _ | exact Lend.row _ _ _ _ _ _ (by decide) | apply Lend.there)) (by first  | rfl | exact tab_get (by first | omega | (simp; omega)) | exact gm (d := 0) (by first | omega | (simp; omega))))) (by decide) ?_
      refine JO.gt (g := 21) rfl rfl hg9 ?_
      first | refine JO.v (Yv.len_s Tryd.underlying22 rfl) (by decide) ?_ | refine JO.v (Yv.lenRd Tryd.underlying22 rfl (by repeat (first | exact Lend.same _ _ | exact Lend.row _ _ _ _ _ _ (by decide) | apply Lend.there))) (by decide) ?_
      refine JO.gt (g := 21) rfl rfl hg9 ?_
      refine JO.v (Yv.as (v' := .bool (!decide (ws.length = l.length))) (Yv.bin rfl rfl BinR.neq_i) (congrArg Value.bool (by rw [Bool.eq_iff_iff]; simp only [Bool.not_eq_true', decide_eq_false_iff_not, decide_eq_true_eq, ne_eq]; omega))) (by decide) ?_
      refine JO.v (Yv.pick0 rfl hg9 rfl) (by decide) ?_
      refine JO.nil ?_
      refine JQ.head () (by first | (refine ⟨by first | rfl | (simp [*]; done) | (show some _ = some _; simp [*]; done), ?_⟩; repeat (first | exact trivial | refine ⟨rfl, ?_⟩))) (Subs.sub (by repeat (first | exact Subs.nil _ | apply Subs.cons | exact List.Mem.head _ | refine List.Mem.tail _ ?_))) (Picks.perm (by repeat (first | exact Picks.nil _ | apply Picks.cons | exact Pull.here _ _ | apply Pull.there))) ?_
      trivial
  · skip
    refine JO.nil ?_
    refine JQ.then_normal ?_
    refine JC.cond rfl (fun hc1 => ?_) (fun hc1 => ?_)
    · try simp only [decide_eq_true_eq, decide_eq_false_iff_not, Bool.not_eq_true', Bool.not_eq_false', ne_eq, Decidable.not_not, Bool.not_eq_true, Bool.and_eq_true, Bool.or_eq_true, BitVec.reduceToNat] at hc1
      have hno : ¬ (okA l.length [f, r0] = true ∧ ws.length = l.length) := by simpa using hc1
      refine JC.seq ?_
      refine JC.region ?_
      refine JO.v (Yv.assign rfl) (by decide) ?_
      refine JO.nil ?_
      refine JQ.then_normal ?_
      refine JC.ret ?_
      refine JQ.then_ret ?_
      exact JQ.done (.inr rfl) (Γ' := []) (H' := [Res.cells p [v] 57, Res.row v _ 23 1 _]) (res1 rfl (RV.tmp rfl)) (Subs.sub (by repeat (first | exact Subs.nil _ | apply Subs.cons | exact List.Mem.head _ | refine List.Mem.tail _ ?_))) (Picks.perm (by repeat (first | exact Picks.nil _ | apply Picks.cons | exact Pull.here _ _ | apply Pull.there))) ⟨by rw [(spread_no hno).1], rfl, by rw [(spread_no hno).2]⟩
    · try simp only [decide_eq_true_eq, decide_eq_false_iff_not, Bool.not_eq_true', Bool.not_eq_false', ne_eq, Decidable.not_not, Bool.not_eq_true, Bool.and_eq_true, Bool.or_eq_true, BitVec.reduceToNat] at hc1
      have hc1' : okA l.length [f, r0] = true ∧ ws.length = l.length := by simpa using hc1
      obtain ⟨hc1a, hlen⟩ := hc1'
      obtain ⟨i, j, rfl, rfl, hi, hj⟩ := ok2 hc1a
      refine JC.skip ?_
      refine JQ.then_normal ?_
      refine JC.seq ?_
      refine JC.region ?_
      refine JO.v (Yv.move rfl) (by decide) ?_
      refine JO.v (Yv.nilCheck rfl) (by decide) ?_
      refine JO.v (Yv.fieldAddr fa_57_0 rfl) (by decide) ?_
      refine JO.v (Yv.load1 one_22 rfl (by first | exact Kn.own (by repeat (first | exact List.Mem.head _ | refine List.Mem.tail _ ?_)) (by first  | rfl | exact tab_get (by first | omega | (simp; omega)) | exact gm (d := 0) (by first | omega | (simp; omega))) | exact Kn.ro (by repeat (first | exact List.Mem.head _ | refine List.Mem.tail _ ?_)) (by first  | rfl | exact tab_get (by first | omega | (simp; omega)) | exact gm (d := 0) (by first | omega | (simp; omega))) | exact Kn.row (by repeat (first | exact List.Mem.head _ | refine List.Mem.tail _ ?_)) (by first  | rfl | exact tab_get (by first | omega | (simp; omega)) | exact gm (d := 0) (by first | omega | (simp; omega))) | exact Kn.rd (by repeat (first | exact Lend.same _ _ | exact Lend.row _ _ _ _ _ _ (by decide) | apply Lend.there)) (by first  | rfl | exact tab_get (by first | omega | (simp; omega)) | exact gm (d := 0) (by first | omega | (simp; omega))) | exact Kn.rd2 (by repeat (first | exact Lend.same _ _ | exact Lend.row _ _ _ _ _ _ (by decide) | apply Lend.there)) (by first  | rfl | exact tab_get (by first | omega | (simp; omega)) | exact gm (d := 0) (by first | omega | (simp; omega))))) (by decide) ?_
      refine JO.v (Yv.move rfl) (by decide) ?_
      first | refine JO.v (Yv.indexRow1 Tryd.underlying22 sz_23 rfl rfl (by repeat (first | exact List.Mem.head _ | refine List.Mem.tail _ ?_)) (by first | exact ltb rfl | (simp; done) | (simp; omega) | omega | (simp [*]; omega))) (by decide) ?_ | refine JO.v (Yv.indexRd1 Tryd.underlying22 sz_23 rfl rfl (by repeat (first | exact Lend.same _ _ | exact Lend.row _ _ _ _ _ _ (by decide) | apply Lend.there)) (by first | exact ltb rfl | (simp; done) | (simp; omega) | omega | (simp [*]; omega))) (by decide) ?_
      refine JO.v (Yv.load1 one_23 rfl (by first | exact Kn.own (by repeat (first | exact List.Mem.head _ | refine List.Mem.tail _ ?_)) (by first  | rfl | exact tab_get (by first | omega | (simp; omega)) | exact gm (d := 0) (by first | omega | (simp; omega))) | exact Kn.ro (by repeat (first | exact List.Mem.head _ | refine List.Mem.tail _ ?_)) (by first  | rfl | exact tab_get (by first | omega | (simp; omega)) | exact gm (d := 0) (by first | omega | (simp; omega))) | exact Kn.row (by repeat (first | exact List.Mem.head _ | refine List.Mem.tail _ ?_)) (by first  | rfl | exact tab_get (by first | omega | (simp; omega)) | exact gm (d := 0) (by first | omega | (simp; omega))) | exact Kn.rd (by repeat (first | exact Lend.same _ _ | exact Lend.row _ _ _ _ _ _ (by decide) | apply Lend.there)) (by first  | rfl | exact tab_get (by first | omega | (simp; omega)) | exact gm (d := 0) (by first | omega | (simp; omega))) | exact Kn.rd2 (by repeat (first | exact Lend.same _ _ | exact Lend.row _ _ _ _ _ _ (by decide) | apply Lend.there)) (by first  | rfl | exact tab_get (by first | omega | (simp; omega)) | exact gm (d := 0) (by first | omega | (simp; omega))))) (by decide) ?_
      refine JO.v (Yv.assign rfl) (by decide) ?_
      refine JO.nil ?_
      refine JQ.then_normal ?_
      refine JC.seq ?_
      refine JC.region ?_
      refine JO.v (Yv.move rfl) (by decide) ?_
      refine JO.v (Yv.nilCheck rfl) (by decide) ?_
      refine JO.v (Yv.fieldAddr fa_57_0 rfl) (by decide) ?_
      refine JO.v (Yv.load1 one_22 rfl (by first | exact Kn.own (by repeat (first | exact List.Mem.head _ | refine List.Mem.tail _ ?_)) (by first  | rfl | exact tab_get (by first | omega | (simp; omega)) | exact gm (d := 0) (by first | omega | (simp; omega))) | exact Kn.ro (by repeat (first | exact List.Mem.head _ | refine List.Mem.tail _ ?_)) (by first  | rfl | exact tab_get (by first | omega | (simp; omega)) | exact gm (d := 0) (by first | omega | (simp; omega))) | exact Kn.row (by repeat (first | exact List.Mem.head _ | refine List.Mem.tail _ ?_)) (by first  | rfl | exact tab_get (by first | omega | (simp; omega)) | exact gm (d := 0) (by first | omega | (simp; omega))) | exact Kn.rd (by repeat (first | exact Lend.same _ _ | exact Lend.row _ _ _ _ _ _ (by decide) | apply Lend.there)) (by first  | rfl | exact tab_get (by first | omega | (simp; omega)) | exact gm (d := 0) (by first | omega | (simp; omega))) | exact Kn.rd2 (by repeat (first | exact Lend.same _ _ | exact Lend.row _ _ _ _ _ _ (by decide) | apply Lend.there)) (by first  | rfl | exact tab_get (by first | omega | (simp; omega)) | exact gm (d := 0) (by first | omega | (simp; omega))))) (by decide) ?_
      refine JO.v (Yv.move rfl) (by decide) ?_
      first | refine JO.v (Yv.indexRow1 Tryd.underlying22 sz_23 rfl rfl (by repeat (first | exact List.Mem.head _ | refine List.Mem.tail _ ?_)) (by first | exact ltb rfl | (simp; done) | (simp; omega) | omega | (simp [*]; omega))) (by decide) ?_ | refine JO.v (Yv.indexRd1 Tryd.underlying22 sz_23 rfl rfl (by repeat (first | exact Lend.same _ _ | exact Lend.row _ _ _ _ _ _ (by decide) | apply Lend.there)) (by first | exact ltb rfl | (simp; done) | (simp; omega) | omega | (simp [*]; omega))) (by decide) ?_
      first | refine JO.store1 sz_23 rfl rfl rfl (by repeat (first | exact Upd.here _ _ _ | apply Upd.there)) (by first | exact ltb rfl | (simp; done) | (simp; omega) | omega | (simp [*]; omega)) ?_ | refine JO.storeRow1 sz_23 rfl rfl rfl (by repeat (first | exact Upd.here _ _ _ | apply Upd.there)) (by first | exact ltb rfl | (simp; done) | (simp; omega) | omega | (simp [*]; omega)) (by first | rfl | (simp; done) | omega | (simp; omega)) ?_
      rw [show Value.int .u64 0 = u64 0 from rfl, set_u64]
      refine JO.nil ?_
      refine JQ.then_normal ?_
      refine JC.seq ?_
      refine JC.region ?_
      refine JO.v (Yv.move rfl) (by decide) ?_
      refine JO.v (Yv.move rfl) (by decide) ?_
      refine JO.callB (f26_spec u ws) body_26 rfl (by repeat (first | exact Picks.nil _ | apply Picks.cons | exact Pull.here _ _ | apply Pull.there)) (by repeat (first | exact Lends.nil _ | apply Lends.cons | exact Lend.same _ _ | exact Lend.row _ _ _ _ _ _ (by decide) | apply Lend.there)) (by rintro _ _ _ ⟨_, h, _⟩; exact h) (by decide) ?_
      rintro _ _ ⟨_, ⟨rfl, _, rfl⟩, hH⟩
      simp only [List.cons_append, List.nil_append] at hH; subst hH
      refine JO.alloc _ zero_51 rfl (by decide) fun b11 => ?_
      refine JO.v (Yv.as (v' := u64 (leftT (l.getD i 0) (parts (l.getD i 0) ws) 0)) (Yv.assign rfl) (by rw [leftT_0])) (by decide) ?_
      first | refine JO.storeAll sz_51 rfl rfl rfl (by first | rfl | (simp; done) | (simp; omega)) (by first | (simp; done) | exact one_map (fun _ => rfl) | exact one_tab (fun _ => rfl) | exact one_tab (fun _ => by split <;> rfl)) (by repeat (first | exact Upd.here _ _ _ | apply Upd.there)) (by first | rfl | (simp; done) | (simp; omega)) ?_ | refine JO.store sz_51 rfl rfl rfl (by first | rfl | (simp; done) | (simp; omega)) (by first | (simp; done) | exact one_sing rfl | exact one_map (fun _ => rfl) | exact one_piece (one_map (fun _ => rfl)) | exact one_tab (fun _ => rfl) | exact one_tab (fun _ => by split <;> rfl)) (by repeat (first | exact Upd.here _ _ _ | apply Upd.there)) (by first | exact ltb rfl | (simp; done) | (simp; omega) | omega | (simp [*]; omega)) ?_ | refine JO.storeRow sz_51 rfl rfl rfl (by first | rfl | simp) (by first | (simp; done) | exact one_map (fun _ => rfl) | exact one_tab (fun _ => rfl) | exact one_tab (fun _ => by split <;> rfl)) (by repeat (first | exact Upd.here _ _ _ | apply Upd.there)) (by first | exact ltb rfl | (simp; done) | (simp; omega) | omega | (simp [*]; omega)) (by first | exact ltb rfl | (simp; done) | (simp; omega) | omega | (simp [*]; omega)) ?_
      refine JO.nil ?_
      refine JQ.then_normal ?_
      refine JC.seq ?_
      refine JC.seq ?_
      refine JC.region ?_
      refine JO.v (Yv.move rfl) (by decide) ?_
      first | refine JO.v (Yv.len_s Tryd.underlying22 rfl) (by decide) ?_ | refine JO.v (Yv.lenRd Tryd.underlying22 rfl (by repeat (first | exact Lend.same _ _ | exact Lend.row _ _ _ _ _ _ (by decide) | apply Lend.there))) (by decide) ?_
      refine JO.v (Yv.move rfl) (by decide) ?_
      refine JO.nil ?_
      refine JQ.then_normal ?_
      refine JC.block ?_
      refine JC.loop (ι := Nat) (fun x => x ≤ ws.length) (fun x => [(0, ptr p 0), (2, it (j : Int)), (9, u64 (l.getD i 0)), (10, u64 (leftT (l.getD i 0) (parts (l.getD i 0) ws) x)), (11, ptr b11 0), (47, u), (48, it (ws.length : Int)), (49, it (x : Int))]) (fun x => [Res.rd u ws.length 1 (ws.map u64)]) (fun x => [Res.cells p [v] 57, Res.row v l.length 23 1 ((addT (l.set i 0) (parts (l.getD i 0) ws) x).map u64), Res.cells b11 ((wd (totN ws)).map u64) 51]) (fun x => ws.length - x) 0 (by repeat (first | exact trivial | refine ⟨by first | rfl | (simp; done), ?_⟩)) (Subs.sub (by repeat (first | exact Subs.nil _ | apply Subs.cons | exact List.Mem.head _ | refine List.Mem.tail _ ?_))) (Picks.perm (by rw [addT_0]; repeat (first | exact Picks.nil _ | apply Picks.cons | exact Pull.here _ _ | apply Pull.there))) ?_ (fun x hx => ?_)
      · exact Nat.zero_le _
      refine JC.seq ?_
      refine JC.region ?_
      refine JO.v (Yv.bin rfl rfl BinR.lss_i) (by decide) ?_
      refine JO.nil ?_
      refine JQ.then_normal ?_
      refine JC.seq ?_
      refine JC.cond rfl (fun hc2 => ?_) (fun hc2 => ?_)
      · try simp only [decide_eq_true_eq, decide_eq_false_iff_not, Bool.not_eq_true', Bool.not_eq_false', ne_eq, Decidable.not_not, Bool.not_eq_true, Bool.and_eq_true, Bool.or_eq_true, BitVec.reduceToNat] at hc2
        refine JC.skip ?_
        refine JQ.then_normal ?_
        refine JC.seq ?_
        refine JC.block ?_
        refine JC.seq ?_
        refine JC.region ?_
        refine JO.v (Yv.move rfl) (by decide) ?_
        first | refine JO.v (Yv.indexRow1 Tryd.underlying22 sz_23 rfl rfl (by repeat (first | exact List.Mem.head _ | refine List.Mem.tail _ ?_)) (by first | exact ltb rfl | (simp; done) | (simp; omega) | omega | (simp [*]; omega))) (by decide) ?_ | refine JO.v (Yv.indexRd1 Tryd.underlying22 sz_23 rfl rfl (by repeat (first | exact Lend.same _ _ | exact Lend.row _ _ _ _ _ _ (by decide) | apply Lend.there)) (by first | exact ltb rfl | (simp; done) | (simp; omega) | omega | (simp [*]; omega))) (by decide) ?_
        refine JO.v (Yv.load1 one_23 rfl (by first | exact Kn.own (by repeat (first | exact List.Mem.head _ | refine List.Mem.tail _ ?_)) (by first  | rfl | exact tab_get (by first | omega | (simp; omega)) | exact gm (d := 0) (by first | omega | (simp; omega))) | exact Kn.ro (by repeat (first | exact List.Mem.head _ | refine List.Mem.tail _ ?_)) (by first  | rfl | exact tab_get (by first | omega | (simp; omega)) | exact gm (d := 0) (by first | omega | (simp; omega))) | exact Kn.row (by repeat (first | exact List.Mem.head _ | refine List.Mem.tail _ ?_)) (by first  | rfl | exact tab_get (by first | omega | (simp; omega)) | exact gm (d := 0) (by first | omega | (simp; omega))) | exact Kn.rd (by repeat (first | exact Lend.same _ _ | exact Lend.row _ _ _ _ _ _ (by decide) | apply Lend.there)) (by first  | rfl | exact tab_get (by first | omega | (simp; omega)) | exact gm (d := 0) (by first | omega | (simp; omega))) | exact Kn.rd2 (by repeat (first | exact Lend.same _ _ | exact Lend.row _ _ _ _ _ _ (by decide) | apply Lend.there)) (by first  | rfl | exact tab_get (by first | omega | (simp; omega)) | exact gm (d := 0) (by first | omega | (simp; omega))))) (by decide) ?_
        refine JO.v (Yv.assign rfl) (by decide) ?_
        refine JO.v (Yv.assign rfl) (by decide) ?_
        refine JO.nil ?_
        refine JQ.then_normal ?_
        refine JC.seq ?_
        refine JC.region ?_
        refine JO.v (Yv.move rfl) (by decide) ?_
        refine JO.v (Yv.move rfl) (by decide) ?_
        first | refine JO.v (Yv.loadOwn agg_51 (by repeat (first | exact List.Mem.head _ | refine List.Mem.tail _ ?_)) rfl (by first | rfl | (simp; done) | (simp; omega) | (simp [*]; done))) (by decide) ?_ | refine JO.v (Yv.loadOwnAt agg_51 (by repeat (first | exact List.Mem.head _ | refine List.Mem.tail _ ?_)) rfl (by first | rfl | (simp; done) | (simp; omega) | (simp [*]; done))) (by decide) ?_ | refine JO.v (Yv.loadRow agg_51 (by repeat (first | exact List.Mem.head _ | refine List.Mem.tail _ ?_)) rfl (by first | rfl | (simp; done) | (simp; omega) | (simp [*]; done))) (by decide) ?_ | refine JO.v (Yv.loadRd agg_51 (by repeat (first | exact Lend.same _ _ | exact Lend.row _ _ _ _ _ _ (by decide) | apply Lend.there)) rfl (by first | rfl | (simp; done) | (simp; omega) | (simp [*]; done))) (by decide) ?_ | refine JO.v (Yv.loadRo agg_51 (by repeat (first | exact List.Mem.head _ | refine List.Mem.tail _ ?_)) rfl (by first | rfl | (simp; done) | (simp; omega) | (simp [*]; done))) (by decide) ?_
        refine JO.callB (f29_spec (l.getD i 0) (ws.getD x 0) (totN ws) (tot_lt _)) body_29 rfl (by repeat (first | exact Picks.nil _ | apply Picks.cons | exact Pull.here _ _ | apply Pull.there)) (by repeat (first | exact Lends.nil _ | apply Lends.cons | exact Lend.same _ _ | exact Lend.row _ _ _ _ _ _ (by decide) | apply Lend.there)) (by rintro _ _ _ ⟨_, h, _⟩; exact h) (by decide) ?_
        rintro _ _ ⟨_, ⟨rfl, _, rfl⟩, hH⟩
        simp only [List.cons_append, List.nil_append] at hH; subst hH
        rw [parts_get _ (by omega)]
        refine JO.v (Yv.assign rfl) (by decide) ?_
        refine JO.nil ?_
        refine JQ.then_normal ?_
        refine JC.seq ?_
        refine JC.region ?_
        refine JO.v (Yv.move rfl) (by decide) ?_
        refine JO.v (Yv.nilCheck rfl) (by decide) ?_
        refine JO.v (Yv.fieldAddr fa_57_0 rfl) (by decide) ?_
        refine JO.v (Yv.load1 one_22 rfl (by first | exact Kn.own (by repeat (first | exact List.Mem.head _ | refine List.Mem.tail _ ?_)) (by first  | rfl | exact tab_get (by first | omega | (simp; omega)) | exact gm (d := 0) (by first | omega | (simp; omega))) | exact Kn.ro (by repeat (first | exact List.Mem.head _ | refine List.Mem.tail _ ?_)) (by first  | rfl | exact tab_get (by first | omega | (simp; omega)) | exact gm (d := 0) (by first | omega | (simp; omega))) | exact Kn.row (by repeat (first | exact List.Mem.head _ | refine List.Mem.tail _ ?_)) (by first  | rfl | exact tab_get (by first | omega | (simp; omega)) | exact gm (d := 0) (by first | omega | (simp; omega))) | exact Kn.rd (by repeat (first | exact Lend.same _ _ | exact Lend.row _ _ _ _ _ _ (by decide) | apply Lend.there)) (by first  | rfl | exact tab_get (by first | omega | (simp; omega)) | exact gm (d := 0) (by first | omega | (simp; omega))) | exact Kn.rd2 (by repeat (first | exact Lend.same _ _ | exact Lend.row _ _ _ _ _ _ (by decide) | apply Lend.there)) (by first  | rfl | exact tab_get (by first | omega | (simp; omega)) | exact gm (d := 0) (by first | omega | (simp; omega))))) (by decide) ?_
        refine JO.v (Yv.move rfl) (by decide) ?_
        first | refine JO.v (Yv.indexRow1 Tryd.underlying22 sz_23 rfl rfl (by repeat (first | exact List.Mem.head _ | refine List.Mem.tail _ ?_)) (by first | exact ltb rfl | (simp; done) | (simp; omega) | omega | (simp [*]; omega))) (by decide) ?_ | refine JO.v (Yv.indexRd1 Tryd.underlying22 sz_23 rfl rfl (by repeat (first | exact Lend.same _ _ | exact Lend.row _ _ _ _ _ _ (by decide) | apply Lend.there)) (by first | exact ltb rfl | (simp; done) | (simp; omega) | omega | (simp [*]; omega))) (by decide) ?_
        refine JO.v (Yv.load1 one_23 rfl (by first | exact Kn.own (by repeat (first | exact List.Mem.head _ | refine List.Mem.tail _ ?_)) (by first  | rfl | exact tab_get (by first | omega | (simp; omega)) | exact gm (d := 0) (by first | omega | (simp; omega))) | exact Kn.ro (by repeat (first | exact List.Mem.head _ | refine List.Mem.tail _ ?_)) (by first  | rfl | exact tab_get (by first | omega | (simp; omega)) | exact gm (d := 0) (by first | omega | (simp; omega))) | exact Kn.row (by repeat (first | exact List.Mem.head _ | refine List.Mem.tail _ ?_)) (by first  | rfl | exact tab_get (by first | omega | (simp; omega)) | exact gm (d := 0) (by first | omega | (simp; omega))) | exact Kn.rd (by repeat (first | exact Lend.same _ _ | exact Lend.row _ _ _ _ _ _ (by decide) | apply Lend.there)) (by first  | rfl | exact tab_get (by first | omega | (simp; omega)) | exact gm (d := 0) (by first | omega | (simp; omega))) | exact Kn.rd2 (by repeat (first | exact Lend.same _ _ | exact Lend.row _ _ _ _ _ _ (by decide) | apply Lend.there)) (by first  | rfl | exact tab_get (by first | omega | (simp; omega)) | exact gm (d := 0) (by first | omega | (simp; omega))))) (by decide) ?_
        refine JO.v (Yv.move rfl) (by decide) ?_
        refine JO.v (Yv.bin rfl rfl (BinR.add_u64)) (by decide) ?_
        first | refine JO.v (Yv.indexRow1 Tryd.underlying22 sz_23 rfl rfl (by repeat (first | exact List.Mem.head _ | refine List.Mem.tail _ ?_)) (by first | exact ltb rfl | (simp; done) | (simp; omega) | omega | (simp [*]; omega))) (by decide) ?_ | refine JO.v (Yv.indexRd1 Tryd.underlying22 sz_23 rfl rfl (by repeat (first | exact Lend.same _ _ | exact Lend.row _ _ _ _ _ _ (by decide) | apply Lend.there)) (by first | exact ltb rfl | (simp; done) | (simp; omega) | omega | (simp [*]; omega))) (by decide) ?_
        first | refine JO.store1 sz_23 rfl rfl rfl (by repeat (first | exact Upd.here _ _ _ | apply Upd.there)) (by first | exact ltb rfl | (simp; done) | (simp; omega) | omega | (simp [*]; omega)) ?_ | refine JO.storeRow1 sz_23 rfl rfl rfl (by repeat (first | exact Upd.here _ _ _ | apply Upd.there)) (by first | exact ltb rfl | (simp; done) | (simp; omega) | omega | (simp [*]; omega)) (by first | rfl | (simp; done) | omega | (simp; omega)) ?_
        refine JO.nil ?_
        refine JQ.then_normal ?_
        refine JC.region ?_
        refine JO.v (Yv.move rfl) (by decide) ?_
        refine JO.v (Yv.move rfl) (by decide) ?_
        refine JO.v (Yv.as (v' := u64 (leftT (l.getD i 0) (parts (l.getD i 0) ws) (x + 1))) (Yv.bin rfl rfl (BinR.sub_u64)) (congrArg u64 (leftT_succ (by simp; omega)))) (by decide) ?_
        refine JO.v (Yv.assign rfl) (by decide) ?_
        refine JO.nil ?_
        refine JQ.block_normal ?_
        refine JQ.then_normal ?_
        refine JC.region ?_
        refine JO.v (Yv.bin rfl rfl (BinR.add_i (by first | (constructor <;> omega) | (constructor <;> simp <;> omega)))) (by decide) ?_
        refine JO.v (Yv.move rfl) (by decide) ?_
        refine JO.nil ?_
        rw [set_u64, addT_succ (by simp; omega)]
        refine JQ.head (x + 1) (by repeat (first | exact trivial | refine ⟨by first | rfl | (simp; done), ?_⟩)) (Subs.sub (by repeat (first | exact Subs.nil _ | apply Subs.cons | exact List.Mem.head _ | refine List.Mem.tail _ ?_))) (Picks.perm (by repeat (first | exact Picks.nil _ | apply Picks.cons | exact Pull.here _ _ | apply Pull.there))) ?_
        exact ⟨by omega, by omega⟩
      · try simp only [decide_eq_true_eq, decide_eq_false_iff_not, Bool.not_eq_true', Bool.not_eq_false', ne_eq, Decidable.not_not, Bool.not_eq_true, Bool.and_eq_true, Bool.or_eq_true, BitVec.reduceToNat] at hc2
        obtain rfl : x = ws.length := by omega
        refine JC.exit ?_
        refine JQ.then_exit ?_
        refine JQ.then_exit ?_
        refine JQ.block_exit ?_
        refine JQ.then_normal ?_
        refine JC.seq ?_
        refine JC.region ?_
        refine JO.v (Yv.move rfl) (by decide) ?_
        refine JO.v (Yv.nilCheck rfl) (by decide) ?_
        refine JO.v (Yv.fieldAddr fa_57_0 rfl) (by decide) ?_
        refine JO.v (Yv.load1 one_22 rfl (by first | exact Kn.own (by repeat (first | exact List.Mem.head _ | refine List.Mem.tail _ ?_)) (by first  | rfl | exact tab_get (by first | omega | (simp; omega)) | exact gm (d := 0) (by first | omega | (simp; omega))) | exact Kn.ro (by repeat (first | exact List.Mem.head _ | refine List.Mem.tail _ ?_)) (by first  | rfl | exact tab_get (by first | omega | (simp; omega)) | exact gm (d := 0) (by first | omega | (simp; omega))) | exact Kn.row (by repeat (first | exact List.Mem.head _ | refine List.Mem.tail _ ?_)) (by first  | rfl | exact tab_get (by first | omega | (simp; omega)) | exact gm (d := 0) (by first | omega | (simp; omega))) | exact Kn.rd (by repeat (first | exact Lend.same _ _ | exact Lend.row _ _ _ _ _ _ (by decide) | apply Lend.there)) (by first  | rfl | exact tab_get (by first | omega | (simp; omega)) | exact gm (d := 0) (by first | omega | (simp; omega))) | exact Kn.rd2 (by repeat (first | exact Lend.same _ _ | exact Lend.row _ _ _ _ _ _ (by decide) | apply Lend.there)) (by first  | rfl | exact tab_get (by first | omega | (simp; omega)) | exact gm (d := 0) (by first | omega | (simp; omega))))) (by decide) ?_
        refine JO.v (Yv.move rfl) (by decide) ?_
        first | refine JO.v (Yv.indexRow1 Tryd.underlying22 sz_23 rfl rfl (by repeat (first | exact List.Mem.head _ | refine List.Mem.tail _ ?_)) (by first | exact ltb rfl | (simp; done) | (simp; omega) | omega | (simp [*]; omega))) (by decide) ?_ | refine JO.v (Yv.indexRd1 Tryd.underlying22 sz_23 rfl rfl (by repeat (first | exact Lend.same _ _ | exact Lend.row _ _ _ _ _ _ (by decide) | apply Lend.there)) (by first | exact ltb rfl | (simp; done) | (simp; omega) | omega | (simp [*]; omega))) (by decide) ?_
        refine JO.v (Yv.load1 one_23 rfl (by first | exact Kn.own (by repeat (first | exact List.Mem.head _ | refine List.Mem.tail _ ?_)) (by first  | rfl | exact tab_get (by first | omega | (simp; omega)) | exact gm (d := 0) (by first | omega | (simp; omega))) | exact Kn.ro (by repeat (first | exact List.Mem.head _ | refine List.Mem.tail _ ?_)) (by first  | rfl | exact tab_get (by first | omega | (simp; omega)) | exact gm (d := 0) (by first | omega | (simp; omega))) | exact Kn.row (by repeat (first | exact List.Mem.head _ | refine List.Mem.tail _ ?_)) (by first  | rfl | exact tab_get (by first | omega | (simp; omega)) | exact gm (d := 0) (by first | omega | (simp; omega))) | exact Kn.rd (by repeat (first | exact Lend.same _ _ | exact Lend.row _ _ _ _ _ _ (by decide) | apply Lend.there)) (by first  | rfl | exact tab_get (by first | omega | (simp; omega)) | exact gm (d := 0) (by first | omega | (simp; omega))) | exact Kn.rd2 (by repeat (first | exact Lend.same _ _ | exact Lend.row _ _ _ _ _ _ (by decide) | apply Lend.there)) (by first  | rfl | exact tab_get (by first | omega | (simp; omega)) | exact gm (d := 0) (by first | omega | (simp; omega))))) (by decide) ?_
        refine JO.v (Yv.move rfl) (by decide) ?_
        refine JO.v (Yv.bin rfl rfl (BinR.add_u64)) (by decide) ?_
        first | refine JO.v (Yv.indexRow1 Tryd.underlying22 sz_23 rfl rfl (by repeat (first | exact List.Mem.head _ | refine List.Mem.tail _ ?_)) (by first | exact ltb rfl | (simp; done) | (simp; omega) | omega | (simp [*]; omega))) (by decide) ?_ | refine JO.v (Yv.indexRd1 Tryd.underlying22 sz_23 rfl rfl (by repeat (first | exact Lend.same _ _ | exact Lend.row _ _ _ _ _ _ (by decide) | apply Lend.there)) (by first | exact ltb rfl | (simp; done) | (simp; omega) | omega | (simp [*]; omega))) (by decide) ?_
        first | refine JO.store1 sz_23 rfl rfl rfl (by repeat (first | exact Upd.here _ _ _ | apply Upd.there)) (by first | exact ltb rfl | (simp; done) | (simp; omega) | omega | (simp [*]; omega)) ?_ | refine JO.storeRow1 sz_23 rfl rfl rfl (by repeat (first | exact Upd.here _ _ _ | apply Upd.there)) (by first | exact ltb rfl | (simp; done) | (simp; omega) | omega | (simp [*]; omega)) (by first | rfl | (simp; done) | omega | (simp; omega)) ?_
        rw [set_u64]
        refine JO.nil ?_
        refine JQ.then_normal ?_
        refine JC.seq ?_
        refine JC.region ?_
        refine JO.v (Yv.assign rfl) (by decide) ?_
        refine JO.nil ?_
        refine JQ.then_normal ?_
        refine JC.ret ?_
        exact JQ.done (.inr rfl) (Γ' := []) (H' := [Res.cells p [v] 57, Res.row v _ 23 1 _]) (res1 rfl (RV.tmp rfl)) (Subs.sub (by repeat (first | exact Subs.nil _ | apply Subs.cons | exact List.Mem.head _ | refine List.Mem.tail _ ?_))) (Picks.perm (by repeat (first | exact Picks.nil _ | apply Picks.cons | exact Pull.here _ _ | apply Pull.there))) ⟨by rw [(spread_ok hi hj hlen).1], rfl, by rw [(spread_ok hi hj hlen).2, spreadD_len]; rfl⟩
end Go.Proofs.YtjjcciefjcfdmaaDoor
