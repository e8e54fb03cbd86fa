/- Walks: a tally's quorums, votes; a tally made. -/
import Derived.Test.YtmbpngnamnoiaaaDoorF1
namespace Go.Proofs.YtmbpngnamnoiaaaDoor
open Go.RowKit
set_option maxRecDepth 100000
set_option linter.unusedVariables false
set_option linter.unusedSimpArgs false
theorem f11_spec (p a b : Nat) (sv : Value) (al : W64) (S : List W64) (m : MM Int D32) (hT : TOk S m) (hS : sumS S < 18446744073709551616) (hal : al.toNat = sumS S) :
    Spec Tryd.prog 11 #[(ptr p 0)] [Res.cells p [sv, u64 al, .map (some a), .map (some b)] 67, Res.rd sv S.length 1 (S.map u64), mpR a itK dgV m] []
      (fun r Γ' H' => ∃ o : Option D32, QuoR S m.get o ∧ r = .tuple #[dgV (o.getD D0), .bool o.isSome] ∧ Γ' = [] ∧ H' = []) := by
  refine Spec.of_args Tryd.func11 rfl Tryd.ntmps11 (by simp) fun w => ?_
  refine .seq (.region ?_)
  refine .al zero_31 fun b2 => ?_
  refine .w (.assign rfl) ?_
  refine .nil (.tn (.seq (.seq (.region ?_))))
  refine .w (.move rfl) ?_
  refine .w (.nilCheck rfl) ?_
  refine .w (.fieldAddr fa_67_2 rfl) ?_
  refine .w (.ld one_64 rfl) ?_
  refine .rg Tryd.underlying64 fun r10 => ?_
  refine .nil (.tn (.block ?_))
  refine .lp (ι := List VE) (fun x => m.Walk x ∧ ∀ e ∈ x, ¬ Quo S m.get e.2.1) (fun T _ => T) (fun T _ => T) (fun T x => miR r10 a m x :: T) (fun x => m.es.length - x.length) ([]) [0, 2, 10, 24] ?_ (fun x hx => ?_)
  · exact ⟨MM.Walk.nil, by simp⟩
  obtain ⟨hW, hNQ⟩ := hx
  refine .seq (.region ?_)
  refine .nx hT.ok hW ?_ ?_
  · intro hp
    have hno := quo_none hT hp hNQ
    refine .w (.extract rfl rfl) ?_
    refine .nil (.tn (.seq ?_))
    refine .cf rfl ?_
    refine .exit (.then_exit (.then_exit (.block_exit (.tn (.seq (.region ?_))))))
    refine .w (.as (v' := dgV D0) (.build bld_31 rfl rfl) rfl) ?_
    first | refine .sa sz_31 ?_ | refine .so sz_31 ?_ | refine .sr sz_31 ?_
    refine .w (.assign rfl) ?_
    refine .nil (.tn (.ret ?_))
    exact .dn [] [] (res2 rfl (.cl agg_31) (.tmp rfl)) ⟨none, hno, rfl, rfl, rfl⟩
  · intro e he hnp hw2
    have hfl := forA_le S m.get e.2.1
    refine .w (.extract rfl rfl) ?_
    refine .nil (.tn (.seq ?_))
    refine .ct rfl ?_
    refine .skip (.tn (.block (.seq (.region ?_))))
    refine .w (.en hT.ok he) ?_
    refine .w (.as (v' := dgV e.2.1) (.extract rfl rfl) rfl) ?_
    refine .al zero_31 fun b5 => ?_
    first | refine .sa sz_31 ?_ | refine .so sz_31 ?_ | refine .sr sz_31 ?_
    refine .nil (.tn (.seq ?_))
    refine JC.draw (.one 0 (.one 1 (.one 3 (.one 4 (.one 5 (.one 6 (.one 2 (.one 7 .nil)))))))) (fun i => ([7] : List Nat).contains i) (fun i => ([2, 7] : List Nat).contains i) (fun i => ([0, 3, 4, 5] : List Nat).contains i) mixed (by kernel_rfl) (by decide) (by kernel_rfl) ?_
    refine .uw rfl (.move rfl) ?_
    refine .w rfl (.as (v' := dgV e.2.1) (.lda agg_31 rfl) rfl) ?_
    refine .uw rfl (.move rfl) ?_
    refine .uw rfl (.nilCheck rfl) ?_
    refine .uw rfl (.fieldAddr fa_67_1 rfl) ?_
    refine .w rfl (.ld one_34 rfl) ?_
    refine .mw rfl (.c (f12_spec p a b sv al S m e.2.1 hT hS) body_12) ?_
    rintro _ _ _ ⟨rfl, rfl, rfl⟩
    refine kp ?_
    refine .mw rfl (.c (f20_spec (BitVec.ofNat 64 (forA S m.get e.2.1)) al) body_20) ?_
    rintro _ _ _ ⟨rfl, rfl, rfl⟩
    refine kp ?_
    refine .nil (.tn ?_)
    refine .cn rfl (fun hc2 => ?_) (fun hc2 => ?_)
    · have hq : Quo S m.get e.2.1 := by rw [BitVec.toNat_ofNat, Nat.mod_eq_of_lt (by omega), hal] at hc2; exact hc2
      refine .seq (.region ?_)
      refine .w (.as (v' := dgV e.2.1) (.lda agg_31 rfl) rfl) ?_
      first | refine .sa sz_31 ?_ | refine .so sz_31 ?_ | refine .sr sz_31 ?_
      refine .w (.assign rfl) ?_
      refine .nil (.tn (.ret (.block_ret (.then_ret (.block_ret (.then_ret ?_))))))
      exact .dn [] [] (res2 rfl (.cl agg_31) (.tmp rfl)) ⟨some e.2.1, hq, rfl, rfl, rfl⟩
    · have hnq : ¬ Quo S m.get e.2.1 := by rw [BitVec.toNat_ofNat, Nat.mod_eq_of_lt (by omega), hal] at hc2; exact hc2
      refine .skip (.block_normal ?_)
      refine .hd (x ++ [e]) ?_
      exact ⟨⟨hw2, fun y hy => by
        rcases List.mem_append.1 hy with hy | hy
        · exact hNQ y hy
        · simp at hy; subst hy; exact hnq⟩, by have := walk_len hw2; simp at this ⊢; omega⟩

theorem f19_spec (p a b : Nat) (sv : Value) (al : W64) (S : List W64) (m : MM Int D32) (hT : TOk S m) (hS : sumS S < 18446744073709551616) (hal : al.toNat = sumS S) :
    Spec Tryd.prog 19 #[(ptr p 0)] [Res.cells p [sv, u64 al, .map (some a), .map (some b)] 67, Res.rd sv S.length 1 (S.map u64), mpR a itK dgV m] []
      (fun r Γ' H' => r = (.bool (decide (2 * sumS S < 3 * anyA S m.get))) ∧ Γ' = [] ∧ H' = []) := by
  refine Spec.of_args Tryd.func19 rfl Tryd.ntmps19 (by simp) fun w => ?_
  have hfl := anyA_le S m.get
  refine .seq (.region ?_)
  refine .w (.assign rfl) ?_
  refine .nil (.tn (.seq ?_))
  refine JC.draw (.one 0 (.one 2 (.one 3 (.one 4 (.one 5 (.one 1 (.one 6 (.one 7 .nil)))))))) (fun i => ([6] : List Nat).contains i) (fun i => ([1, 6] : List Nat).contains i) (fun i => ([0, 2, 3, 4, 7] : List Nat).contains i) mixed (by kernel_rfl) (by decide) (by kernel_rfl) ?_
  refine .uw rfl (.move rfl) ?_
  refine .uw rfl (.move rfl) ?_
  refine .uw rfl (.nilCheck rfl) ?_
  refine .uw rfl (.fieldAddr fa_67_1 rfl) ?_
  refine .w rfl (.ld one_34 rfl) ?_
  refine .mw rfl (.c (f13_spec p a b sv al S m hT hS) body_13) ?_
  rintro _ _ _ ⟨rfl, rfl, rfl⟩
  refine kp ?_
  refine .mw rfl (.c (f20_spec (BitVec.ofNat 64 (anyA S m.get)) al) body_20) ?_
  rintro _ _ _ ⟨rfl, rfl, rfl⟩
  rw [BitVec.toNat_ofNat, Nat.mod_eq_of_lt (by omega), hal]
  refine kp ?_
  refine .uw rfl (.assign rfl) ?_
  refine .nil (.tn (.ret ?_))
  exact .dn [] [] (res1 rfl (.tmp rfl)) ⟨rfl, rfl, rfl⟩

theorem f10_spec (p a b : Nat) (sv : Value) (al : W64) (S : List W64) (m : MM Int D32) (tw : MM Int Bool) (who : Int) (v : D32) (hT : TOk S m) (hln : S.length ≤ 1000000) :
    Spec Tryd.prog 10 #[(ptr p 0), (it who), (dgV v)] [Res.cells p [sv, u64 al, .map (some a), .map (some b)] 67, Res.rd sv S.length 1 (S.map u64)] [mpR a itK dgV m, mpR b itK blV tw]
      (fun r Γ' H' => ∃ m' tw', r = it (voteE S m.get who v) ∧ (TOk S m') ∧ m' = (if voteE S m.get who v = 0 then m.put who v else m) ∧ (tw.Ok → tw'.Ok) ∧ tw' = (if voteE S m.get who v = 52 then tw.put who true else tw) ∧ Γ' = [] ∧ H' = [mpR a itK dgV m', mpR b itK blV tw']) := by
  refine Spec.of_args Tryd.func10 rfl Tryd.ntmps10 (by simp) fun w => ?_
  refine .seq (.region ?_)
  refine .bx fun b5 => ?_
  refine .w (.assign rfl) ?_
  refine .nil (.tn (.seq (.seq (.region ?_))))
  refine .w (.move rfl) ?_
  refine .w (.bin rfl rfl BinR.lss_i) ?_
  refine .w (.move rfl) ?_
  refine .join 8 19 (.bool (decide (who < 0 ∨ (S.length : Int) ≤ who))) ?_ ?_
  · refine .gn (g := 10) rfl (fun hg6 hg6' => ?_) (fun hg6 hg6' => ?_)
    · refine .gf (g := 11) rfl rfl hg6 (by decide) ?_
      refine .gf (g := 11) rfl rfl hg6 (by decide) ?_
      refine .gf (g := 11) rfl rfl hg6 (by decide) ?_
      refine .gf (g := 11) rfl rfl hg6 (by decide) ?_
      refine .gf (g := 11) rfl rfl hg6 (by decide) ?_
      refine .gf (g := 11) rfl rfl hg6 (by decide) ?_
      refine .gf (g := 11) rfl rfl hg6 (by decide) ?_
      refine .w (.pick1 rfl hg6 rfl) ?_
      refine .nil ?_
      refine .head () (by first | (refine ⟨by first | rfl | exact congrArg (fun b => some (Value.bool b)) (by first | exact (decide_eq_true (by omega)).symm | exact (decide_eq_false (by omega)).symm | exact decide_eq_decide.2 (by omega)) | (simp [*]; done) | (show some _ = some _; simp [*]; done), ?_⟩; repeat (first | exact trivial | refine ⟨rfl, ?_⟩))) (fun _ h => h) (Picks.perm (by repeat (first | exact Picks.nil _ | apply Picks.cons | exact Pull.here _ _ | apply Pull.there))) ?_
      trivial
    · refine .gt (g := 11) rfl rfl hg6 ?_
      refine .w (.move rfl) ?_
      refine .gt (g := 11) rfl rfl hg6 ?_
      refine .w (.move rfl) ?_
      refine .gt (g := 11) rfl rfl hg6 ?_
      refine .w (.nilCheck rfl) ?_
      refine .gt (g := 11) rfl rfl hg6 ?_
      refine .w (.fieldAddr fa_67_0 rfl) ?_
      refine .gt (g := 11) rfl rfl hg6 ?_
      refine .w (.ld one_22 rfl) ?_
      refine .gt (g := 11) rfl rfl hg6 ?_
      refine .w (.len Tryd.underlying22 rfl) ?_
      refine .gt (g := 11) rfl rfl hg6 ?_
      refine .w (.bin rfl rfl BinR.geq_i) ?_
      refine .w (.pick0 rfl hg6 rfl) ?_
      refine .nil ?_
      refine .head () (by first | (refine ⟨by first | rfl | exact congrArg (fun b => some (Value.bool b)) (by first | exact (decide_eq_true (by omega)).symm | exact (decide_eq_false (by omega)).symm | exact decide_eq_decide.2 (by omega)) | (simp [*]; done) | (show some _ = some _; simp [*]; done), ?_⟩; repeat (first | exact trivial | refine ⟨rfl, ?_⟩))) (fun _ h => h) (Picks.perm (by repeat (first | exact Picks.nil _ | apply Picks.cons | exact Pull.here _ _ | apply Pull.there))) ?_
      trivial
  · refine .nil (.tn ?_)
    refine .cn rfl (fun hc1 => ?_) (fun hc1 => ?_)
    · have hE : voteE S m.get who v = 1 := if_pos hc1
      refine .seq (.region ?_)
      refine .w (.assign rfl) ?_
      refine .nil (.tn (.ret (.then_ret ?_)))
      exact .dn [] [mpR a itK dgV m, mpR b itK blV tw] (res1 rfl (.tmp rfl)) ⟨m, tw, by rw [hE], hT, by rw [hE]; rfl, id, by rw [hE]; rfl, rfl, rfl⟩
    · obtain ⟨i, rfl⟩ : ∃ i : Nat, who = i := ⟨who.toNat, by omega⟩
      have hil : i < S.length := by omega
      refine .skip (.tn (.seq (.region ?_)))
      refine .w (.move rfl) ?_
      refine .w (.nilCheck rfl) ?_
      refine .w (.fieldAddr fa_67_2 rfl) ?_
      refine .w (.ld one_64 rfl) ?_
      refine .w (.move rfl) ?_
      refine .w (.as (v' := .tuple #[dgV ((m.get (i : Int)).getD D0), .bool (m.get (i : Int)).isSome]) (.lk2 ((i : Nat) : Int) Tryd.underlying64 mkey_64 zf_31) (by cases m.get (i : Int) <;> rfl)) ?_
      refine .w (.move rfl) ?_
      refine .w (.as (v' := dgV ((m.get (i : Int)).getD D0)) (.extract rfl rfl) rfl) ?_
      refine .w (.as (v' := .bool (m.get (i : Int)).isSome) (.extract rfl rfl) rfl) ?_
      refine .al zero_31 fun b7 => ?_
      first | refine .sa sz_31 ?_ | refine .so sz_31 ?_ | refine .sr sz_31 ?_
      refine .w (.assign rfl) ?_
      refine .nil (.tn (.seq (.block (.seq (.region ?_)))))
      refine .w (.move rfl) ?_
      refine .w (.nilCheck rfl) ?_
      refine .w (.fieldAddr fa_67_0 rfl) ?_
      refine .w (.ld one_22 rfl) ?_
      refine .w (.move rfl) ?_
      refine .w (.ix1 Tryd.underlying22 sz_34 rfl rfl) ?_
      refine .w (.ld one_34 rfl) ?_
      refine .w (.as (v' := .bool (decide (stk S i = 0))) (.bin rfl rfl (BinR.eql_u64 (b := 0#64))) (congrArg Value.bool (decide_eq_decide.2 (stk0 S i)))) ?_
      refine .w (.assign rfl) ?_
      refine .nil (.tn ?_)
      refine .cn rfl (fun hc2 => ?_) (fun hc2 => ?_)
      · try simp only [BitVec.reduceToNat] at hc2
        have hE : voteE S m.get i v = 51 := by rw [voteE, if_neg hc1, if_pos hc2]
        refine .seq (.region ?_)
        refine .w (.assign rfl) ?_
        refine .nil (.tn (.ret (.block_ret (.then_ret ?_))))
        exact .dn [] [mpR a itK dgV m, mpR b itK blV tw] (res1 rfl (.tmp rfl)) ⟨m, tw, by rw [hE], hT, by rw [hE]; rfl, id, by rw [hE]; rfl, rfl, rfl⟩
      · try simp only [BitVec.reduceToNat] at hc2
        skip
        refine .seq (.region ?_)
        refine .w (.move rfl) ?_
        refine .join 5 44 (.bool (decide (m.get ((i : Nat) : Int) = some v))) ?_ ?_
        · refine .w (.move rfl) ?_
          refine .gn (g := 8) rfl (fun hg39 hg39' => ?_) (fun hg39 hg39' => ?_)
          · refine .gt (g := 40) rfl rfl hg39 ?_
            refine .w (.as (v' := dgV ((m.get (i : Int)).getD D0)) (.lda agg_31 rfl) rfl) ?_
            refine .gt (g := 40) rfl rfl hg39 ?_
            refine .w (.as (v' := dgV v) (.lda agg_31 rfl) rfl) ?_
            refine .gt (g := 40) rfl rfl hg39 ?_
            refine .w (.bin rfl rfl (eql_dig)) ?_
            refine .w (.pick1 rfl hg39 rfl) ?_
            refine .nil ?_
            refine .head () (by first | (refine ⟨by first | rfl | exact congrArg some (congrArg Value.bool (by first | (obtain ⟨u, hu⟩ := Option.isSome_iff_exists.1 hg39'; rw [hu]; simp; done) | (cases hm : m.get ((i : Nat) : Int) <;> simp_all; done))), ?_⟩; repeat (first | exact trivial | refine ⟨rfl, ?_⟩))) (fun _ h => h) (Picks.perm (by repeat (first | exact Picks.nil _ | apply Picks.cons | exact Pull.here _ _ | apply Pull.there))) ?_
            trivial
          · refine .gf (g := 40) rfl rfl hg39 (by decide) ?_
            refine .gf (g := 40) rfl rfl hg39 (by decide) ?_
            refine .gf (g := 40) rfl rfl hg39 (by decide) ?_
            refine .w (.pick0 rfl hg39 rfl) ?_
            refine .nil ?_
            refine .head () (by first | (refine ⟨by first | rfl | exact congrArg some (congrArg Value.bool (by first | (obtain ⟨u, hu⟩ := Option.isSome_iff_exists.1 hg39'; rw [hu]; simp; done) | (cases hm : m.get ((i : Nat) : Int) <;> simp_all; done))), ?_⟩; repeat (first | exact trivial | refine ⟨rfl, ?_⟩))) (fun _ h => h) (Picks.perm (by repeat (first | exact Picks.nil _ | apply Picks.cons | exact Pull.here _ _ | apply Pull.there))) ?_
            trivial
        · refine .w (.assign rfl) ?_
          refine .nil (.tn ?_)
          refine .cn rfl (fun hc3 => ?_) (fun hc3 => ?_)
          · have hE : voteE S m.get i v = 13 := by rw [voteE, if_neg hc1, if_neg hc2, if_pos hc3]
            refine .seq (.region ?_)
            refine .w (.assign rfl) ?_
            refine .nil (.tn (.ret (.block_ret (.then_ret ?_))))
            exact .dn [] [mpR a itK dgV m, mpR b itK blV tw] (res1 rfl (.tmp rfl)) ⟨m, tw, by rw [hE], hT, by rw [hE]; rfl, id, by rw [hE]; rfl, rfl, rfl⟩
          · skip
            refine .seq (.region ?_)
            refine .w (.move rfl) ?_
            refine .w (.assign rfl) ?_
            refine .nil (.tn ?_)
            refine .cn rfl (fun hc4 => ?_) (fun hc4 => ?_)
            · have hE : voteE S m.get i v = 52 := by rw [voteE, if_neg hc1, if_neg hc2, if_neg hc3, if_pos hc4]
              refine .seq (.region ?_)
              refine .w (.move rfl) ?_
              refine .w (.nilCheck rfl) ?_
              refine .w (.fieldAddr fa_67_3 rfl) ?_
              refine .w (.ld one_65 rfl) ?_
              refine .w (.move rfl) ?_
              refine .mu ((i : Nat) : Int) true Tryd.underlying65 mkey_65 ?_
              refine .nil (.tn (.seq (.region ?_)))
              refine .w (.assign rfl) ?_
              refine .nil (.tn (.ret (.block_ret (.then_ret ?_))))
              exact .dn [] [mpR a itK dgV m, mpR b itK blV (tw.put i true)] (res1 rfl (.tmp rfl)) ⟨m, tw.put i true, by rw [hE], hT, by rw [hE]; rfl, fun h => MM.ok_put h _ _, by rw [hE]; rfl, rfl, rfl⟩
            · have hE : voteE S m.get i v = 0 := by rw [voteE, if_neg hc1, if_neg hc2, if_neg hc3, if_neg (by rw [hc4]; decide)]
              refine .skip (.block_normal (.tn (.seq ?_)))
              refine JC.draw (.one 0 (.one 1 (.one 2 (.one 3 (.one 4 (.one 5 (.one 6 .nil))))))) (fun i => ([6] : List Nat).contains i) (fun i => ([6] : List Nat).contains i) (fun i => ([0, 1, 2, 4] : List Nat).contains i) mixed (by kernel_rfl) (by decide) (by kernel_rfl) ?_
              refine .uw rfl (.move rfl) ?_
              refine .uw rfl (.nilCheck rfl) ?_
              refine .uw rfl (.fieldAddr fa_67_2 rfl) ?_
              refine .w rfl (.ld one_64 rfl) ?_
              refine .uw rfl (.move rfl) ?_
              refine .w rfl (.as (v' := dgV v) (.lda agg_31 rfl) rfl) ?_
              refine .mw0 rfl (.mu ((i : Nat) : Int) v Tryd.underlying64 mkey_64) ?_
              rintro _ _ _ ⟨rfl, rfl⟩
              refine kp ?_
              refine .nil (.tn (.seq (.region ?_)))
              refine .w (.assign rfl) ?_
              refine .nil (.tn (.ret ?_))
              exact .dn [] [mpR a itK dgV (m.put i v), mpR b itK blV tw] (res1 rfl (.tmp rfl)) ⟨m.put i v, tw, by rw [hE], tok_put hT v (by omega) (by omega), by rw [hE]; rfl, id, by rw [hE]; rfl, rfl, rfl⟩

set_option maxHeartbeats 1000000 in
theorem f9ok_spec (u : Value) (S : List W64) (h1 : 1 ≤ S.length) (h2 : S.length ≤ 40) (h3 : sumS S < 9223372036854775808) :
    Spec Tryd.prog 9 #[u] [Res.var 0 [u64 9223372036854775808, u64 0, u64 0, u64 0], Res.rd u S.length 1 (S.map u64)] []
      (fun r Γ' H' => ∃ p a b sv, r = .tuple #[ptr p 0, it 0] ∧ Γ' = [] ∧ H' = [Res.cells p [sv, u64 (BitVec.ofNat 64 (sumS S)), .map (some a), .map (some b)] 67, Res.row sv S.length 34 1 (S.map u64), mpR a itK dgV MM.nil, mpR b itK blV MM.nil]) := by
  refine Spec.of_args Tryd.func9 rfl Tryd.ntmps9 (by simp) fun w => ?_
  refine JC.know (φ := S.length ≤ 9223372036854775807) (fun w hs => by obtain ⟨_, _, _, _, _, _, h⟩ := hs.rdForm (.tail _ (.head _)); unfold maxLen at h; omega) fun hln => ?_
  have htot : totN S = sumS S := totN_sum (by omega)
  refine .seq (.region ?_)
  refine .w (.assign rfl) ?_
  refine .w (.assign rfl) ?_
  refine .nil (.tn (.seq (.region ?_)))
  refine .w (.move rfl) ?_
  refine .c (f30_spec u S) body_30 ?_
  refine .al zero_60 fun b4 => ?_
  first | refine .sa sz_60 ?_ | refine .so sz_60 ?_ | refine .sr sz_60 ?_
  refine .nil (.tn (.seq (.block (.seq (.region ?_)))))
  refine .w (.move rfl) ?_
  refine .join 7 15 (.bool (decide (S.length < 1 ∨ 40 < S.length))) ?_ ?_
  · refine .w (.len Tryd.underlying22 rfl) ?_
    refine .w (.bin rfl rfl BinR.lss_i) ?_
    refine .w (.move rfl) ?_
    refine .gn (g := 10) rfl (fun hg11 hg11' => ?_) (fun hg11 hg11' => ?_)
    · refine .gf (g := 11) rfl rfl hg11 (by decide) ?_
      refine .gf (g := 11) rfl rfl hg11 (by decide) ?_
      refine .gf (g := 11) rfl rfl hg11 (by decide) ?_
      refine .w (.pick1 rfl hg11 rfl) ?_
      refine .nil ?_
      refine .head () (by first | (refine ⟨by first | rfl | exact congrArg (fun b => some (Value.bool b)) (by first | exact (decide_eq_true (by omega)).symm | exact (decide_eq_false (by omega)).symm | exact decide_eq_decide.2 (by omega)) | (simp [*]; done) | (show some _ = some _; simp [*]; done), ?_⟩; repeat (first | exact trivial | refine ⟨rfl, ?_⟩))) (fun _ h => h) (Picks.perm (by repeat (first | exact Picks.nil _ | apply Picks.cons | exact Pull.here _ _ | apply Pull.there))) ?_
      trivial
    · refine .gt (g := 11) rfl rfl hg11 ?_
      refine .w (.move rfl) ?_
      refine .gt (g := 11) rfl rfl hg11 ?_
      refine .w (.len Tryd.underlying22 rfl) ?_
      refine .gt (g := 11) rfl rfl hg11 ?_
      refine .w (.bin rfl rfl BinR.gtr_i) ?_
      refine .w (.pick0 rfl hg11 rfl) ?_
      refine .nil ?_
      refine .head () (by first | (refine ⟨by first | rfl | exact congrArg (fun b => some (Value.bool b)) (by first | exact (decide_eq_true (by omega)).symm | exact (decide_eq_false (by omega)).symm | exact decide_eq_decide.2 (by omega)) | (simp [*]; done) | (show some _ = some _; simp [*]; done), ?_⟩; repeat (first | exact trivial | refine ⟨rfl, ?_⟩))) (fun _ h => h) (Picks.perm (by repeat (first | exact Picks.nil _ | apply Picks.cons | exact Pull.here _ _ | apply Pull.there))) ?_
      trivial
  · refine .w (.assign rfl) ?_
    refine .nil (.tn ?_)
    refine .cn rfl (fun hc1 => ?_) (fun hc1 => ?_)
    · exact absurd hc1 (by omega)
    · refine .seq (.region ?_)
      refine .w (.as (v' := .agg ((wd (totN S)).map u64).toArray) (.lda agg_60 rfl) rfl) ?_
      refine .w (.as (v' := .agg ((wd 9223372036854775808).map u64).toArray) (.lda agg_60 rfl) rfl) ?_
      refine .c (f31_spec (totN S) 9223372036854775808 (tot_lt _) (by decide)) body_31 ?_
      refine .w (.as (v' := .bool (decide (9223372036854775808 ≤ totN S))) (.bin rfl rfl BinR.geq_i) (congrArg Value.bool (decide_eq_decide.2 (cmp_ge _ _)))) ?_
      refine .w (.assign rfl) ?_
      refine .nil (.tn ?_)
      refine .cn rfl (fun hc2 => ?_) (fun hc2 => ?_)
      · exact absurd hc2 (by omega)
      · refine .skip (.block_normal (.tn (.seq ?_)))
        refine JC.draw (.one 0 (.one 2 (.one 3 (.alt 1 (.alt 4 (.one 5 (.one 6 (.one 7 (.one 8 (.one 9 .nil))))) (.alt 5 (.one 4 (.one 6 (.one 7 (.one 8 (.one 9 .nil))))) .nil)) (.alt 4 (.alt 1 (.one 5 (.one 6 (.one 7 (.one 8 (.one 9 .nil))))) (.alt 5 (.one 1 (.one 6 (.one 7 (.one 8 (.one 9 .nil))))) .nil)) (.alt 5 (.alt 1 (.one 4 (.one 6 (.one 7 (.one 8 (.one 9 .nil))))) (.alt 4 (.one 1 (.one 6 (.one 7 (.one 8 (.one 9 .nil))))) .nil)) .nil)))))) (fun i => ([7] : List Nat).contains i) (fun i => ([1, 4, 5, 7] : List Nat).contains i) (fun i => ([0, 2, 6, 8, 9] : List Nat).contains i) mixed (by kernel_rfl) (by decide) (by kernel_rfl) ?_
        refine .uw rfl (.move rfl) ?_
        refine .uw rfl (.ixA (j := 0) Tryd.underlying60 sz_34 rfl rfl) ?_
        refine .w rfl (.as (v' := u64 (BitVec.ofNat 64 (totN S))) (.ld one_34 rfl) rfl) ?_
        refine JR.alt rfl ?_ ?_
        · refine .mw rfl (.cb (f32_spec u S.length (S.map u64) (by omega) (one_map fun _ => rfl)) body_32) ?_
          rintro sv _ _ ⟨_, ⟨_, _, rfl⟩, hΓ, hH⟩
          simp only [List.cons_append, List.nil_append] at hH; subst hΓ hH
          refine kp ?_
          refine JR.know (φ := ∃ A c, sv = .slice A S.length c) (fun w hs => hs.rowSl (by repeat (first | exact List.Mem.head _ | refine List.Mem.tail _ ?_))) fun ⟨A, c, hsv⟩ => ?_
          subst hsv
          refine JR.alt rfl ?_ ?_
          · refine .mw rfl (.mm itK dgV) ?_
            rintro v25 _ _ ⟨b25, rfl, rfl, rfl⟩
            refine kp ?_
            refine .mw rfl (.mm itK blV) ?_
            rintro v26 _ _ ⟨b26, rfl, rfl, rfl⟩
            refine kp ?_
            refine .uw rfl (.build bld_67 rfl rfl) ?_
            refine .mw rfl (Mv.box rfl) ?_
            rintro _ _ _ ⟨b28, rfl, rfl, rfl⟩
            refine kp ?_
            refine .uw rfl (.assign rfl) ?_
            refine .uw rfl (.assign rfl) ?_
            refine .nil (.tn (.ret ?_))
            rw [← htot]
            exact .dn [] [Res.cells _ [_, _, _, _] 67, Res.row _ S.length 34 1 (S.map u64), mpR _ itK dgV MM.nil, mpR _ itK blV MM.nil] (res2 rfl (.tmp rfl) (.tmp rfl)) ⟨_, _, _, _, rfl, rfl, rfl⟩
          refine JA.alt rfl ?_ ?_
          · refine .mw rfl (.mm itK blV) ?_
            rintro v26 _ _ ⟨b26, rfl, rfl, rfl⟩
            refine kp ?_
            refine .mw rfl (.mm itK dgV) ?_
            rintro v25 _ _ ⟨b25, rfl, rfl, rfl⟩
            refine kp ?_
            refine .uw rfl (.build bld_67 rfl rfl) ?_
            refine .mw rfl (Mv.box rfl) ?_
            rintro _ _ _ ⟨b28, rfl, rfl, rfl⟩
            refine kp ?_
            refine .uw rfl (.assign rfl) ?_
            refine .uw rfl (.assign rfl) ?_
            refine .nil (.tn (.ret ?_))
            rw [← htot]
            exact .dn [] [Res.cells _ [_, _, _, _] 67, Res.row _ S.length 34 1 (S.map u64), mpR _ itK dgV MM.nil, mpR _ itK blV MM.nil] (res2 rfl (.tmp rfl) (.tmp rfl)) ⟨_, _, _, _, rfl, rfl, rfl⟩
          exact JA.nil
        refine JA.alt rfl ?_ ?_
        · refine .mw rfl (.mm itK dgV) ?_
          rintro v25 _ _ ⟨b25, rfl, rfl, rfl⟩
          refine kp ?_
          refine JR.alt rfl ?_ ?_
          · refine .mw rfl (.cb (f32_spec u S.length (S.map u64) (by omega) (one_map fun _ => rfl)) body_32) ?_
            rintro sv _ _ ⟨_, ⟨_, _, rfl⟩, hΓ, hH⟩
            simp only [List.cons_append, List.nil_append] at hH; subst hΓ hH
            refine kp ?_
            refine JR.know (φ := ∃ A c, sv = .slice A S.length c) (fun w hs => hs.rowSl (by repeat (first | exact List.Mem.head _ | refine List.Mem.tail _ ?_))) fun ⟨A, c, hsv⟩ => ?_
            subst hsv
            refine .mw rfl (.mm itK blV) ?_
            rintro v26 _ _ ⟨b26, rfl, rfl, rfl⟩
            refine kp ?_
            refine .uw rfl (.build bld_67 rfl rfl) ?_
            refine .mw rfl (Mv.box rfl) ?_
            rintro _ _ _ ⟨b28, rfl, rfl, rfl⟩
            refine kp ?_
            refine .uw rfl (.assign rfl) ?_
            refine .uw rfl (.assign rfl) ?_
            refine .nil (.tn (.ret ?_))
            rw [← htot]
            exact .dn [] [Res.cells _ [_, _, _, _] 67, Res.row _ S.length 34 1 (S.map u64), mpR _ itK dgV MM.nil, mpR _ itK blV MM.nil] (res2 rfl (.tmp rfl) (.tmp rfl)) ⟨_, _, _, _, rfl, rfl, rfl⟩
          refine JA.alt rfl ?_ ?_
          · refine .mw rfl (.mm itK blV) ?_
            rintro v26 _ _ ⟨b26, rfl, rfl, rfl⟩
            refine kp ?_
            refine .mw rfl (.cb (f32_spec u S.length (S.map u64) (by omega) (one_map fun _ => rfl)) body_32) ?_
            rintro sv _ _ ⟨_, ⟨_, _, rfl⟩, hΓ, hH⟩
            simp only [List.cons_append, List.nil_append] at hH; subst hΓ hH
            refine kp ?_
            refine JR.know (φ := ∃ A c, sv = .slice A S.length c) (fun w hs => hs.rowSl (by repeat (first | exact List.Mem.head _ | refine List.Mem.tail _ ?_))) fun ⟨A, c, hsv⟩ => ?_
            subst hsv
            refine .uw rfl (.build bld_67 rfl rfl) ?_
            refine .mw rfl (Mv.box rfl) ?_
            rintro _ _ _ ⟨b28, rfl, rfl, rfl⟩
            refine kp ?_
            refine .uw rfl (.assign rfl) ?_
            refine .uw rfl (.assign rfl) ?_
            refine .nil (.tn (.ret ?_))
            rw [← htot]
            exact .dn [] [Res.cells _ [_, _, _, _] 67, Res.row _ S.length 34 1 (S.map u64), mpR _ itK dgV MM.nil, mpR _ itK blV MM.nil] (res2 rfl (.tmp rfl) (.tmp rfl)) ⟨_, _, _, _, rfl, rfl, rfl⟩
          exact JA.nil
        refine JA.alt rfl ?_ ?_
        · refine .mw rfl (.mm itK blV) ?_
          rintro v26 _ _ ⟨b26, rfl, rfl, rfl⟩
          refine kp ?_
          refine JR.alt rfl ?_ ?_
          · refine .mw rfl (.cb (f32_spec u S.length (S.map u64) (by omega) (one_map fun _ => rfl)) body_32) ?_
            rintro sv _ _ ⟨_, ⟨_, _, rfl⟩, hΓ, hH⟩
            simp only [List.cons_append, List.nil_append] at hH; subst hΓ hH
            refine kp ?_
            refine JR.know (φ := ∃ A c, sv = .slice A S.length c) (fun w hs => hs.rowSl (by repeat (first | exact List.Mem.head _ | refine List.Mem.tail _ ?_))) fun ⟨A, c, hsv⟩ => ?_
            subst hsv
            refine .mw rfl (.mm itK dgV) ?_
            rintro v25 _ _ ⟨b25, rfl, rfl, rfl⟩
            refine kp ?_
            refine .uw rfl (.build bld_67 rfl rfl) ?_
            refine .mw rfl (Mv.box rfl) ?_
            rintro _ _ _ ⟨b28, rfl, rfl, rfl⟩
            refine kp ?_
            refine .uw rfl (.assign rfl) ?_
            refine .uw rfl (.assign rfl) ?_
            refine .nil (.tn (.ret ?_))
            rw [← htot]
            exact .dn [] [Res.cells _ [_, _, _, _] 67, Res.row _ S.length 34 1 (S.map u64), mpR _ itK dgV MM.nil, mpR _ itK blV MM.nil] (res2 rfl (.tmp rfl) (.tmp rfl)) ⟨_, _, _, _, rfl, rfl, rfl⟩
          refine JA.alt rfl ?_ ?_
          · refine .mw rfl (.mm itK dgV) ?_
            rintro v25 _ _ ⟨b25, rfl, rfl, rfl⟩
            refine kp ?_
            refine .mw rfl (.cb (f32_spec u S.length (S.map u64) (by omega) (one_map fun _ => rfl)) body_32) ?_
            rintro sv _ _ ⟨_, ⟨_, _, rfl⟩, hΓ, hH⟩
            simp only [List.cons_append, List.nil_append] at hH; subst hΓ hH
            refine kp ?_
            refine JR.know (φ := ∃ A c, sv = .slice A S.length c) (fun w hs => hs.rowSl (by repeat (first | exact List.Mem.head _ | refine List.Mem.tail _ ?_))) fun ⟨A, c, hsv⟩ => ?_
            subst hsv
            refine .uw rfl (.build bld_67 rfl rfl) ?_
            refine .mw rfl (Mv.box rfl) ?_
            rintro _ _ _ ⟨b28, rfl, rfl, rfl⟩
            refine kp ?_
            refine .uw rfl (.assign rfl) ?_
            refine .uw rfl (.assign rfl) ?_
            refine .nil (.tn (.ret ?_))
            rw [← htot]
            exact .dn [] [Res.cells _ [_, _, _, _] 67, Res.row _ S.length 34 1 (S.map u64), mpR _ itK dgV MM.nil, mpR _ itK blV MM.nil] (res2 rfl (.tmp rfl) (.tmp rfl)) ⟨_, _, _, _, rfl, rfl, rfl⟩
          exact JA.nil
        exact JA.nil

set_option maxHeartbeats 1000000 in
theorem f9no_spec (u : Value) (S : List W64) (hbad : newE S ≠ 0) :
    Spec Tryd.prog 9 #[u] [Res.var 0 [u64 9223372036854775808, u64 0, u64 0, u64 0], Res.rd u S.length 1 (S.map u64)] []
      (fun r Γ' H' => r = (.tuple #[.pointer none, it (newE S)]) ∧ Γ' = [] ∧ H' = []) := by
  refine Spec.of_args Tryd.func9 rfl Tryd.ntmps9 (by simp) fun w => ?_
  refine JC.know (φ := S.length ≤ 9223372036854775807) (fun w hs => by obtain ⟨_, _, _, _, _, _, h⟩ := hs.rdForm (.tail _ (.head _)); unfold maxLen at h; omega) fun hln => ?_
  refine .seq (.region ?_)
  refine .w (.assign rfl) ?_
  refine .w (.assign rfl) ?_
  refine .nil (.tn (.seq (.region ?_)))
  refine .w (.move rfl) ?_
  refine .c (f30_spec u S) body_30 ?_
  refine .al zero_60 fun b4 => ?_
  first | refine .sa sz_60 ?_ | refine .so sz_60 ?_ | refine .sr sz_60 ?_
  refine .nil (.tn (.seq (.block (.seq (.region ?_)))))
  refine .w (.move rfl) ?_
  refine .join 7 15 (.bool (decide (S.length < 1 ∨ 40 < S.length))) ?_ ?_
  · refine .w (.len Tryd.underlying22 rfl) ?_
    refine .w (.bin rfl rfl BinR.lss_i) ?_
    refine .w (.move rfl) ?_
    refine .gn (g := 10) rfl (fun hg11 hg11' => ?_) (fun hg11 hg11' => ?_)
    · refine .gf (g := 11) rfl rfl hg11 (by decide) ?_
      refine .gf (g := 11) rfl rfl hg11 (by decide) ?_
      refine .gf (g := 11) rfl rfl hg11 (by decide) ?_
      refine .w (.pick1 rfl hg11 rfl) ?_
      refine .nil ?_
      refine .head () (by first | (refine ⟨by first | rfl | exact congrArg (fun b => some (Value.bool b)) (by first | exact (decide_eq_true (by omega)).symm | exact (decide_eq_false (by omega)).symm | exact decide_eq_decide.2 (by omega)) | (simp [*]; done) | (show some _ = some _; simp [*]; done), ?_⟩; repeat (first | exact trivial | refine ⟨rfl, ?_⟩))) (fun _ h => h) (Picks.perm (by repeat (first | exact Picks.nil _ | apply Picks.cons | exact Pull.here _ _ | apply Pull.there))) ?_
      trivial
    · refine .gt (g := 11) rfl rfl hg11 ?_
      refine .w (.move rfl) ?_
      refine .gt (g := 11) rfl rfl hg11 ?_
      refine .w (.len Tryd.underlying22 rfl) ?_
      refine .gt (g := 11) rfl rfl hg11 ?_
      refine .w (.bin rfl rfl BinR.gtr_i) ?_
      refine .w (.pick0 rfl hg11 rfl) ?_
      refine .nil ?_
      refine .head () (by first | (refine ⟨by first | rfl | exact congrArg (fun b => some (Value.bool b)) (by first | exact (decide_eq_true (by omega)).symm | exact (decide_eq_false (by omega)).symm | exact decide_eq_decide.2 (by omega)) | (simp [*]; done) | (show some _ = some _; simp [*]; done), ?_⟩; repeat (first | exact trivial | refine ⟨rfl, ?_⟩))) (fun _ h => h) (Picks.perm (by repeat (first | exact Picks.nil _ | apply Picks.cons | exact Pull.here _ _ | apply Pull.there))) ?_
      trivial
  · refine .w (.assign rfl) ?_
    refine .nil (.tn ?_)
    refine .cn rfl (fun hc1 => ?_) (fun hc1 => ?_)
    · have hE : newE S = 2 := if_pos hc1
      refine .seq (.region ?_)
      refine .w (.assign rfl) ?_
      refine .w (.assign rfl) ?_
      refine .nil (.tn (.ret (.block_ret (.then_ret ?_))))
      exact .dn [] [] (res2 rfl (.tmp rfl) (.tmp rfl)) ⟨by rw [hE], rfl, rfl⟩
    · skip
      refine .seq (.region ?_)
      refine .w (.as (v' := .agg ((wd (totN S)).map u64).toArray) (.lda agg_60 rfl) rfl) ?_
      refine .w (.as (v' := .agg ((wd 9223372036854775808).map u64).toArray) (.lda agg_60 rfl) rfl) ?_
      refine .c (f31_spec (totN S) 9223372036854775808 (tot_lt _) (by decide)) body_31 ?_
      refine .w (.as (v' := .bool (decide (9223372036854775808 ≤ totN S))) (.bin rfl rfl BinR.geq_i) (congrArg Value.bool (decide_eq_decide.2 (cmp_ge _ _)))) ?_
      refine .w (.assign rfl) ?_
      refine .nil (.tn ?_)
      refine .cn rfl (fun hc2 => ?_) (fun hc2 => ?_)
      · have hE : newE S = 10 := by rw [newE, if_neg hc1, if_pos hc2]
        refine .seq (.region ?_)
        refine .w (.assign rfl) ?_
        refine .w (.assign rfl) ?_
        refine .nil (.tn (.ret (.block_ret (.then_ret ?_))))
        exact .dn [] [] (res2 rfl (.tmp rfl) (.tmp rfl)) ⟨by rw [hE], rfl, rfl⟩
      · exact absurd (by rw [newE, if_neg hc1, if_neg hc2]) hbad
end Go.Proofs.YtmbpngnamnoiaaaDoor
