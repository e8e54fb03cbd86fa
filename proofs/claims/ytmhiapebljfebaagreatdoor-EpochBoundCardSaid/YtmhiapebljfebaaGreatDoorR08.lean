/- Texts of ours, gathered: QE SA SB QC. -/
import Derived.Test.YtmhiapebljfebaaGreatDoorR07
set_option linter.unusedVariables false
set_option linter.unusedSimpArgs false
set_option maxRecDepth 100000
/- Walks: a seed of secrets. -/
namespace Go.Proofs.YtmhiapebljfebaaGreatDoor
open Go.RowKit
theorem f69_spec (p m : Nat) (hm : m < 115792089237316195423570985008687907853269984665640564039457584007913129639936) (h1 : 1 < m) (lv : Value) (l : List Nat) (hl : ∀ a ∈ l, a < 115792089237316195423570985008687907853269984665640564039457584007913129639936) :
  Spec Tryz.prog 69 #[(ptr p 0), lv] [Res.mod p m, Res.rd lv l.length 4 (bks natC l)] []
   (fun r Γ' H' => r = (.agg ((wd (sumK m l l.length)).map u64).toArray) ∧ Γ' = [] ∧ H' = []) := by
 refine Spec.of_args Tryz.func69 rfl Tryz.ntmps69 (by simp) fun w => ?_
 refine .seq (.region ?_)
 refine .al zero_40 fun b4 => ?_
 refine .nil (.tn (.seq (.region ?_)))
 refine .w (.move rfl) (.w (.move rfl) (.c (f126_spec p m hm h1 lv l hl) body_126 ?_))
 refine .sa sz_40 ?_
 refine .nil (.tn (.ret ?_))
 exact .dn [] [] (res1 rfl (.cl agg_40)) ⟨rfl, rfl, rfl⟩

theorem f123_spec (n : BitVec 64) :
  Spec Tryz.prog 123 #[(u64 n)] [] []
   (fun r Γ' H' => True ∧ Γ' = [Res.rd r (digs n 8).length 1 ((digs n 8).map u8)] ∧ H' = []) := by
 refine Spec.of_args Tryz.func123 rfl Tryz.ntmps123 (by simp) fun w => ?_
 refine .seq (.region ?_)
 refine .w (.assign rfl) ?_
 refine .nil (.tn (.seq (.region ?_)))
 refine .w (.move rfl) (.w (.as (v' := natV [n, 0, 0, 0]) (.build bld_40 rfl rfl) rfl) (.cb (f125_spec [n, 0, 0, 0] rfl) body_125 ?_))
 rintro v5 _ ⟨_, _, rfl⟩
 refine .ap ?_
 refine .cf 24 32 Tryz.underlying79 sz_5 (fun v6 => ?_) (hn := (by rw [natBytes_length]; decide))
 rw [rd_num]
 refine .w (.assign rfl) ?_
 refine .nil (.tn (.ret ?_))
 exact .dn [Res.rd v6 (digs n 8).length 1 ((digs n 8).map u8)] [] (res1 rfl (.tmp rfl)) ⟨trivial, rfl, rfl⟩

theorem f68_spec (num : W64) (prev : D32) (sum : Nat) (hs : sum < 115792089237316195423570985008687907853269984665640564039457584007913129639936) (qv : Value) (q : List Int) (hq : q.length ≤ 1000) :
  Spec Tryz.prog 68 #[(u64 num), (dgV prev), (.agg ((wd sum).map u64).toArray), qv] [Res.var 5 (sqr.map u32), Res.var 4 (cub.map u32), Res.rd qv q.length 1 (q.map it)] []
   (fun r Γ' H' => r = (dgV (seedF num prev sum q)) ∧ Γ' = [] ∧ H' = []) := by
 refine Spec.of_args Tryz.func68 rfl Tryz.ntmps68 (by simp) fun w => ?_
 have hp32 : (prev.1.map u8).length = 32 := by rw [List.length_map, prev.2]
 refine JC.know (φ := q.length ≤ 9223372036854775807) (fun w hs => by obtain ⟨_, _, _, _, _, _, h⟩ := hs.rdForm (.tail _ (.tail _ (.head _))); unfold maxLen at h; omega) fun hql => ?_
 refine .seq (.region ?_)
 refine .bx fun b5 => ?_
 refine .bx fun b6 => ?_
 refine .al zero_35 fun b8 => ?_
 refine JO.frz (r := Res.cells b5 (prev.1.map u8) 35) zq12 ?_
 refine JO.frz (r := Res.cells b6 ((wd sum).map u64) 40) zq12 ?_
 refine JO.rdCells (.tail _ (.head _)) hp32 (by decide) ?_
 rw [show Res.rd (.slice (some ⟨b5, 0, none⟩) 32 32) 32 1 (prev.1.map u8) = Res.rd (.slice (some ⟨b5, 0, none⟩) 32 32) prev.1.length 1 (prev.1.map u8) from by rw [prev.2]]
 refine .nil (.tn (.seq (.region ?_)))
 refine JO.nilRow 5 1 ?_
 refine .w (.assign rfl) ?_
 refine .nil (.tn (.seq (.seq (.region ?_))))
 refine .w (.move rfl) (.w (.len Tryz.underlying37 rfl) (.w (.move rfl) ?_))
 refine .nil (.tn (.block ?_))
 refine .lp (ι := Nat × Value) (fun x => x.1 ≤ q.length) (fun T x => (14, it (x.1 : Int)) :: (9, x.2) :: T) (fun T _ => T) (fun T x => Res.row x.2 (whoB (q.take x.1)).length 5 1 ((whoB (q.take x.1)).map u8) :: T) (fun x => q.length - x.1) (0, .slice none 0 0) [0, 5, 6, 8, 12, 13, 24, 25, 26, 27, 28, 29, 30, 31] ?_ (fun x hx => ?_)
 ·exact Nat.zero_le _
 obtain ⟨k, vo⟩ := x
 have hk := hx
 dsimp only at hk ⊢
 have hwl := whoB_len (q.take k)
 rw [List.length_take] at hwl
 refine .seq (.region ?_)
 refine .w (.bin rfl rfl BinR.lss_i) ?_
 refine .nil (.tn (.seq ?_))
 refine .cn rfl (fun hc1 => ?_) (fun hc1 => ?_)
 ·have hd8 := digs_len (BitVec.ofInt 64 (q.getD k 0)) 8
  refine .skip (.tn (.seq (.block (.seq (.region ?_)))))
  refine .w (.ix1 Tryz.underlying37 sz_3 rfl rfl) (.w (.as (v' := it (q.getD k 0)) (.ld one_3 rfl (hj := by exact gm (d := 0) (by omega))) rfl) (.w (.assign rfl) ?_))
  refine .nil (.tn (.region ?_))
  refine .w (.move rfl) (.w (.move rfl) (.w (.as (v' := u64 (BitVec.ofInt 64 (q.getD k 0))) (.conv_i_u64 Tryz.underlying3 Tryz.underlying22 rfl) rfl) (.cs (f123_spec (BitVec.ofInt 64 (q.getD k 0))) body_123 ?_)))
  rintro v21 _ _ ⟨_, rfl, rfl⟩
  refine .ap ?_
  refine .ap ?_
  refine .ap Tryz.underlying79 info_5 (fun v22 => ?_) (hone := one_u8s)
  rw [map_cat, len_cat, whoB_snoc (by omega)]
  refine .w (.assign rfl) ?_
  refine .nil (.block_normal (.tn (.region ?_)))
  refine .w (.asI ((k + 1 : Nat) : Int) (.bin rfl rfl (BinR.add_i zq3))) (.w (.move rfl) (.nil ?_))
  refine .hd (k + 1, v22) ?_
  exact ⟨by dsimp only; omega, by dsimp only; omega⟩
 ·obtain rfl : k = q.length := by omega
  rw [List.take_length]
  refine JC.freeze (v := vo) zq12 (by decide) ?_
  refine JC.know (φ := vo.oneCell' = true) (fun w hs => by obtain ⟨A, c, rfl, _⟩ := hs.rdForm (.head _); rfl) fun hvo => ?_
  refine .exit (.then_exit (.then_exit (.block_exit (.tn (.seq ?_)))))
  refine JC.draw (.one 0 (.one 2 (.one 3 (.one 5 (.one 1 (.one 4 (.one 6 (.one 7 (.one 8 .nil))))))))) (fun i => ([1, 4, 6, 7, 8] : List Nat).contains i) (fun i => ([1, 4, 6, 7, 8] : List Nat).contains i) (fun i => ([0, 2, 3, 5] : List Nat).contains i) mixed (by kernel_rfl) (by decide) (by kernel_rfl) ?_
  refine .uw rfl (.move rfl) (.uw rfl (.as (v' := .slice (some ⟨b5, 0, none⟩) 32 32) (.cutArr (l := 0) (h := 32) Tryz.underlying35 sz_5 rfl rfl rfl zq6 zq6 zq6) rfl) (.uw rfl (.as (v' := natV (wd sum)) (.lda agg_40 rfl) rfl) (.uw rfl (.move rfl) ?_)))
  refine .mw rfl (Mv.call body_123 rfl (f123_spec num) zq1 zq0) ?_
  rintro v25 _ _ ⟨_, _, ⟨_, rfl, rfl⟩, hΓ, hH⟩
  simp only [List.cons_append, List.nil_append] at hΓ hH; subst hΓ hH
  refine kp ?_
  refine JR.know (φ := v25.oneCell' = true) (fun w hs => by obtain ⟨A, c, rfl, _⟩ := hs.rdForm (.head _); rfl) fun hv25 => ?_
  refine .mw rfl (.cb (f125_spec (wd sum) wd_len') body_125) ?_
  rintro v28 _ _ ⟨_, ⟨_, _, rfl⟩, hΓ, hH⟩
  simp only [List.cons_append, List.nil_append] at hH; subst hΓ hH
  refine kp ?_
  refine JR.freeze (v := v28) zq12 (by decide) ?_
  refine JR.know (φ := v28.oneCell' = true) (fun w hs => by obtain ⟨A, c, rfl, _⟩ := hs.rdForm (.head _); rfl) fun hv28 => ?_
  refine .mw rfl (.l1 Tryz.underlying135 info_79 (h1 := (by intro v hv; simp only [List.mem_cons, List.not_mem_nil, or_false] at hv; rcases hv with rfl | rfl | rfl | rfl <;> first | rfl | assumption))) ?_
  rintro v30 _ _ ⟨rfl, rfl⟩
  refine kp ?_
  refine JR.freeze (v := v30) zq12 (by decide) ?_
  refine JR.bundle (pcRes [(v25, digs num 8), ((.slice (some ⟨b5, 0, none⟩) 32 32), prev.1), (v28, natBytes (wd sum)), (vo, whoB q)]) (Subs.sub zq0) ?_
  refine .mw rfl (.c (f124_spec seedT (by decide) v30 [(v25, digs num 8), ((.slice (some ⟨b5, 0, none⟩) 32 32), prev.1), (v28, natBytes (wd sum)), (vo, whoB q)]) body_124) ?_
  rintro _ _ _ ⟨rfl, rfl, rfl⟩
  refine kp ?_
  refine .mw0 rfl (.sa sz_35) ?_
  rintro _ _ _ ⟨rfl, rfl⟩
  refine kp ?_
  refine .nil (.tn (.ret ?_))
  exact .dn [] [] (res1 rfl (.cl agg_35)) ⟨rfl, rfl, rfl⟩
theorem f128_spec (n : Nat) (hn : n ≤ 1000) :
  Spec Tryz.prog 128 #[(it (n : Int))] [] []
   (fun r Γ' H' => r = (.agg ((wd (n + 1)).map u64).toArray) ∧ Γ' = [] ∧ H' = []) := by
 refine Spec.of_args Tryz.func128 rfl Tryz.ntmps128 (by simp) fun w => ?_
 refine .seq (.region ?_)
 refine .al zero_40 fun b2 => ?_
 refine .nil (.tn (.seq (.region ?_)))
 refine .w (.move rfl) (.w (.asI (n : Int) (.max_i rfl rfl)) (.w (.asI ((n + 1 : Nat) : Int) (.bin rfl rfl (BinR.add_i zq3))) (.w (.as (v' := u64 (BitVec.ofNat 64 (n + 1))) (.conv_i_u64 Tryz.underlying3 Tryz.underlying22 rfl) (congrArg u64 (BitVec.ofInt_natCast _ _))) (.w (.as (v' := .agg ((wd (n + 1)).map u64).toArray) (.build bld_40 rfl rfl) (by rw [wd_lt64 (by omega)]; rfl)) (.sa sz_40 ?_)))))
 refine .nil (.tn (.ret ?_))
 exact .dn [] [] (res1 rfl (.cl agg_40)) ⟨rfl, rfl, rfl⟩

theorem f177_spec (n : Int) :
  Spec Tryz.prog 177 #[(it n)] [] []
   (fun r Γ' H' => r = (.bool (decide (1 ≤ n ∧ n ≤ 20))) ∧ Γ' = [] ∧ H' = []) := by
 refine Spec.of_args Tryz.func177 rfl Tryz.ntmps177 (by simp) fun w => ?_
 refine .seq (.region ?_)
 refine .w (.assign rfl) ?_
 refine .nil (.tn (.seq (.region ?_)))
 refine .w (.move rfl) (.w (.bin rfl rfl BinR.geq_i) (.w (.asB (1 ≤ n) (.move rfl)) ?_))
 refine .join 3 8 (.bool (decide (1 ≤ n ∧ n ≤ 20))) ?_ ?_
 ·refine .gn (g := 4) rfl (fun hg5 hg5' => ?_) (fun hg5 hg5' => ?_)
  ·refine .gt (g := 5) rfl rfl hg5 ?_
   refine .w (.move rfl) ?_
   refine .gt (g := 5) rfl rfl hg5 ?_
   refine .w (.bin rfl rfl BinR.leq_i) (.w (.pick1 rfl hg5 rfl) (.nil ?_))
   refine .head () zq2 (fun _ h => h) (Picks.perm zq1) ?_
   trivial
  ·refine .gf (g := 5) rfl rfl hg5 (by decide) ?_
   refine .gf (g := 5) rfl rfl hg5 (by decide) ?_
   refine .w (.pick0 rfl hg5 rfl) (.nil ?_)
   refine .head () zq2 (fun _ h => h) (Picks.perm zq1) ?_
   trivial
 ·refine .w (.assign rfl) ?_
  refine .nil (.tn (.ret ?_))
  exact .dn [] [] (res1 rfl (.tmp rfl)) ⟨rfl, rfl, rfl⟩

theorem f169_spec (γ : GP) (hγ : GOk γ) (a : Nat) (ha : a < 115792089237316195423570985008687907853269984665640564039457584007913129639936) :
  Spec Tryz.prog 169 #[(ptr γ.g 0), (.agg ((wd a).map u64).toArray)] [cGrp γ, Res.mod γ.pq γ.Q] []
   (fun r Γ' H' => r = (.bool (decide (a < γ.Q))) ∧ Γ' = [] ∧ H' = []) := by
 refine Spec.of_args Tryz.func169 rfl Tryz.ntmps169 (by simp) fun w => ?_
 refine .seq (.region ?_)
 refine .bx fun b3 => ?_
 refine .w (.assign rfl) ?_
 refine .nil (.tn (.seq ?_))
 refine JC.draw (.one 0 (.one 1 (.one 2 (.one 3 (.one 4 (.one 5 (.one 6 .nil))))))) (fun i => ([4] : List Nat).contains i) (fun i => ([2, 3, 4] : List Nat).contains i) (fun i => ([1, 5, 6] : List Nat).contains i) mixed (by kernel_rfl) (by decide) (by kernel_rfl) ?_
 refine .w rfl (.lda agg_40 rfl) (.uw rfl (.move rfl) ?_)
 refine .mw rfl (.c (f53_spec γ) body_53) ?_
 rintro _ _ _ ⟨rfl, rfl, rfl⟩
 refine kp ?_
 refine .mw rfl (.c (f54_spec γ.pq γ.Q) body_54) ?_
 rintro _ _ _ ⟨rfl, rfl, rfl⟩
 refine kp ?_
 refine .mw rfl (.c (f52_spec a γ.Q ha hγ.qb) body_52) ?_
 rintro _ _ _ ⟨rfl, rfl, rfl⟩
 refine kp ?_
 refine .uw rfl (.as (v' := .bool (decide (a < γ.Q))) (.bin rfl rfl BinR.lss_i) (congrArg Value.bool (decide_eq_decide.2 (cmp_lt _ _)))) (.uw rfl (.assign rfl) ?_)
 refine .nil (.tn (.ret ?_))
 exact .dn [] [] (res1 rfl (.tmp rfl)) ⟨rfl, rfl, rfl⟩

theorem f180_spec (γ : GP) (hγ : GOk γ) (a : Nat) (ha : a < 115792089237316195423570985008687907853269984665640564039457584007913129639936) (n : Nat) (h1 : 1 ≤ n) (hn : n ≤ 1000) :
  Spec Tryz.prog 180 #[(ptr γ.g 0), (.agg ((wd a).map u64).toArray), (it (n : Int))] [] [cGrp γ, Res.mod γ.px γ.P, Res.mod γ.pq γ.Q]
   (fun r Γ' H' => ∃ v, r = v ∧ Γ' = [] ∧ H' = [Res.row v n 40 4 (bks natC (powL γ.Q a n)), cGrp γ, Res.mod γ.px γ.P, Res.mod γ.pq γ.Q]) := by
 refine Spec.of_args Tryz.func180 rfl Tryz.ntmps180 (by simp) fun w => ?_
 refine .seq (.region ?_)
 refine .bx fun b4 => ?_
 refine .w (.assign rfl) ?_
 refine .nil (.tn (.seq (.region ?_)))
 refine .w (.as (v' := .agg ((wd 1).map u64).toArray) (.build bld_40 rfl rfl) rfl) ?_
 refine .ls Tryz.underlying38 info_40 (fun v9 => ?_) (hsz := (by intro v hv; obtain rfl := List.mem_singleton.1 hv; rfl))
 refine .w (.assign rfl) ?_
 refine .nil (.tn (.seq (.block ?_)))
 refine .lp (ι := Nat × Value) (fun x => 1 ≤ x.1 ∧ x.1 ≤ n) (fun T x => (7, x.2) :: T) (fun T _ => T) (fun T x => Res.row x.2 x.1 40 4 (bks natC (powL γ.Q a x.1)) :: T) (fun x => n - x.1) (1, v9) [0, 2, 4, 6, 27] ?_ (fun x hx => ?_)
 ·exact ⟨Nat.le_refl _, h1⟩
 obtain ⟨k, vo⟩ := x
 obtain ⟨hk1, hk⟩ := hx
 dsimp only at hk1 hk ⊢
 refine .seq (.seq (.region ?_))
 refine .w (.move rfl) (.w (.len Tryz.underlying38 rfl) (.w (.move rfl) (.w (.bin rfl rfl BinR.lss_i) ?_)))
 refine .nil (.tn ?_)
 refine .cn rfl (fun hc1 => ?_) (fun hc1 => ?_)
 ·obtain ⟨j, rfl⟩ : ∃ j, k = j + 1 := ⟨k - 1, by omega⟩
  refine .skip (.tn (.block ?_))
  refine JC.draw (.one 0 (.one 1 (.one 3 (.one 4 (.one 5 (.one 6 (.one 7 (.one 8 (.one 9 (.one 2 (.one 10 (.one 11 (.one 12 (.one 13 .nil)))))))))))))) (fun i => ([10, 11, 12] : List Nat).contains i) (fun i => ([2, 10, 11, 12] : List Nat).contains i) (fun i => ([0, 1, 3, 4, 6, 13] : List Nat).contains i) mixed (by kernel_rfl) (by decide) (by kernel_rfl) ?_
  refine .uw rfl (.move rfl) (.uw rfl (.move rfl) (.uw rfl (.move rfl) (.uw rfl (.move rfl) (.w rfl (.len Tryz.underlying38 rfl) (.uw rfl (.asI (j : Int) (.bin rfl rfl (BinR.sub_i zq3))) (.w rfl (.ix Tryz.underlying38 sz_40 rfl rfl) ?_))))))
  refine .w rfl (.as (v' := .agg ((wd (powK γ.Q a j)).map u64).toArray) (.lda agg_40 rfl (hm := by first | exact AM.own zq5 (by rw [bks_len, powL_len]; omega) | exact AM.ro zq5 (by rw [bks_len, powL_len]; omega) | exact AM.ownAt zq5 (by rw [bks_len, powL_len]; omega) | exact AM.rd zq8 (by rw [bks_len, powL_len]; omega) | exact AM.row zq7 (by rw [bks_len, powL_len]; omega))) (congrArg (fun l : List Value => Value.agg l.toArray) (by rw [nat_piece (by rw [powL_len]; omega), powL_get (by omega)]; rfl))) (.w rfl (.lda agg_40 rfl) ?_)
  refine .mw rfl (.c (f53_spec γ) body_53) ?_
  rintro _ _ _ ⟨rfl, rfl, rfl⟩
  refine kp ?_
  refine .mw rfl (.c (f182_spec γ.pq γ.Q hγ.qb hγ.q1 hγ.qo (powK γ.Q a j) a (Nat.lt_trans (powK_lt hγ.q1 a j) hγ.qb) ha) body_182) ?_
  rintro _ _ _ ⟨rfl, rfl, rfl⟩
  refine kp ?_
  refine .mw rfl (.ls Tryz.underlying38 info_40 (hsz := (by intro v hv; obtain rfl := List.mem_singleton.1 hv; rfl))) ?_
  rintro v25 _ _ ⟨rfl, rfl⟩
  refine kp ?_
  refine .mw rfl (.ap Tryz.underlying38 info_40 (hone := (by intro v hv; rw [show (List.flatMap (fun v => v.cells.toList) [Value.agg (List.map u64 (wd (powK γ.Q a j * a % γ.Q))).toArray]) = natC (powK γ.Q a (j + 1)) from by simp [natC, powK]] at hv; exact FS.one (f := natC) _ _ hv))) ?_
  rintro v26 _ _ ⟨rfl, rfl⟩
  refine kp ?_
  rw [show bks natC (powL γ.Q a (j + 1)) ++ List.flatMap (fun v => v.cells.toList) [Value.agg (List.map u64 (wd (powK γ.Q a j * a % γ.Q))).toArray] = bks natC (powL γ.Q a (j + 1 + 1)) from by rw [powL_succ γ.Q a (j + 1), bks_app]; rfl]
  refine .uw rfl (.assign rfl) ?_
  refine .nil (.block_normal ?_)
  refine .hd (j + 1 + 1, v26) ?_
  exact ⟨⟨by dsimp only; omega, by dsimp only; omega⟩, by dsimp only; omega⟩
 ·obtain rfl : k = n := by omega
  refine .exit (.then_exit (.then_exit (.block_exit (.tn (.seq (.region ?_))))))
  refine .w (.move rfl) (.w (.assign rfl) ?_)
  refine .nil (.tn (.ret ?_))
  exact .dn [] [Res.row vo k 40 4 (bks natC (powL γ.Q a k)), cGrp γ, Res.mod γ.px γ.P, Res.mod γ.pq γ.Q] (res1 rfl (.tmp rfl)) ⟨vo, rfl, rfl, rfl⟩

theorem f176_spec (γ : GP) (hγ : GOk γ) (bg bc bp : Nat) (cv : Value) (com : List Nat) (hc : ∀ a ∈ com, a < 115792089237316195423570985008687907853269984665640564039457584007913129639936) (slot : Int) (sh : Nat) (hsh : sh < 115792089237316195423570985008687907853269984665640564039457584007913129639936) :
  Spec Tryz.prog 176 #[(ptr bc 0), (ptr bp 0), (ptr bg 0)] [Res.cells bc [cv] 38, Res.cells bp (pieC slot sh) 113, Res.cells bg [ptr γ.g 0] 28, Res.rd cv com.length 4 (bks natC com), Res.var 2 ((wd 1).map u64)] [cGrp γ, Res.mod γ.px γ.P, Res.mod γ.pq γ.Q]
   (fun r Γ' H' => r = it (r1E γ com.length slot) ∧ Γ' = [] ∧ H' = [cGrp γ, Res.mod γ.px γ.P, Res.mod γ.pq γ.Q]) := by
 refine Spec.of_args Tryz.func176 rfl Tryz.ntmps176 (by simp) fun w => ?_
 refine JC.know (φ := com.length ≤ 9223372036854775807) (fun w hs => by obtain ⟨_, _, _, _, _, _, h⟩ := hs.rdForm (.tail _ (.tail _ (.tail _ (.head _)))); unfold maxLen at h; omega) fun hll => ?_
 refine .seq (.region ?_)
 refine .w (.assign rfl) ?_
 refine .nil (.tn (.seq (.seq ?_)))
 refine JC.draw (.one 0 (.one 1 (.one 2 (.one 3 (.one 4 (.one 5 (.one 6 (.one 7 (.one 8 (.one 9 (.one 10 (.one 11 (.one 12 (.one 13 (.one 14 (.one 15 (.one 16 (.one 17 (.one 18 (.one 19 (.one 20 (.one 21 .nil)))))))))))))))))))))) (fun i => ([19] : List Nat).contains i) (fun i => ([2, 18, 19] : List Nat).contains i) (fun i => ([1, 3, 4, 5, 7, 8, 9, 10, 12, 13, 14, 16, 20, 21] : List Nat).contains i) mixed (by kernel_rfl) (by decide) (by kernel_rfl) ?_
 refine .w rfl (.ld one_38 rfl) (.uw rfl (.len Tryz.underlying38 rfl) ?_)
 refine .mw rfl (.c (f177_spec (com.length : Int)) body_177) ?_
 rintro _ _ _ ⟨rfl, rfl, rfl⟩
 refine kp ?_
 refine .uw rfl (.not rfl) (.uw rfl (.move rfl) ?_)
 refine JR.gsplit (g := 7) rfl (fun hg7 => ?_) (fun hg7 => ?_)
 ·have hg7' := hg7
  try simp only [decide_eq_true_eq, decide_eq_false_iff_not, Bool.not_eq_true', Bool.not_eq_false', ne_eq, Decidable.not_not, Bool.not_eq_true, Bool.and_eq_true, Bool.or_eq_true, BitVec.reduceToNat] at hg7'
  refine JR.gf (g := 8) rfl rfl rfl rfl hg7 (by decide) ?_
  refine JR.gf (g := 8) rfl rfl rfl rfl hg7 (by decide) ?_
  refine JR.gf (g := 8) rfl rfl rfl rfl hg7 (by decide) ?_
  refine JR.u rfl rfl rfl (Yv.pick1 rfl hg7 rfl) (by decide) (.uw rfl (.move rfl) ?_)
  refine JR.gf (g := 13) rfl rfl rfl rfl rfl (by decide) ?_
  refine JR.gf (g := 13) rfl rfl rfl rfl rfl (by decide) ?_
  refine JR.gf (g := 13) rfl rfl rfl rfl rfl (by decide) ?_
  refine JR.u rfl rfl rfl (Yv.pick1 rfl rfl rfl) (by decide) (.uw rfl (.move rfl) ?_)
  refine JR.gf (g := 18) rfl rfl rfl rfl rfl (by decide) ?_
  refine JR.gf (g := 18) rfl rfl rfl rfl rfl (by decide) ?_
  refine JR.gf (g := 18) rfl rfl rfl rfl rfl (by decide) ?_
  refine JR.gfm (g := 18) rfl rfl rfl rfl rfl (by decide) ?_ ?_
  ·exact ⟨Subs.sub zq0, .inr (St.keep zq0 zq1)⟩
  refine JR.gfm (g := 18) rfl rfl rfl rfl rfl (by decide) ?_ ?_
  ·exact ⟨Subs.sub zq0, .inl rfl⟩
  refine JR.gf (g := 18) rfl rfl rfl rfl rfl (by decide) ?_
  refine JR.u rfl rfl rfl (Yv.pick1 rfl rfl rfl) (by decide) ?_
  refine .nil (.tn ?_)
  refine .k1 rfl rfl ?_
  refine .seq (.region ?_)
  refine .w (.assign rfl) ?_
  refine .nil (.tn (.ret (.then_ret ?_)))
  exact .dn [] [cGrp γ, Res.mod γ.px γ.P, Res.mod γ.pq γ.Q] (res1 rfl (.tmp rfl)) ⟨congrArg it (by unfold r1E; first | (rw [if_pos (by omega)]; done) | (rw [if_neg (by omega)]; done) | (simp_all; omega)), rfl, rfl⟩
 ·have hg7' := hg7
  try simp only [decide_eq_true_eq, decide_eq_false_iff_not, Bool.not_eq_true', Bool.not_eq_false', ne_eq, Decidable.not_not, Bool.not_eq_true, Bool.and_eq_true, Bool.or_eq_true, BitVec.reduceToNat] at hg7'
  refine JR.ugt (g := 8) rfl rfl rfl rfl rfl hg7 (.fieldAddr fa_113_0 rfl) (by decide) ?_
  refine JR.vgt (g := 8) rfl rfl rfl rfl rfl hg7 (.as (v' := it slot) (.ld one_3 rfl) rfl) (by decide) ?_
  refine JR.ugt (g := 8) rfl rfl rfl rfl rfl hg7 (.bin rfl rfl BinR.lss_i) (by decide) ?_
  refine JR.u rfl rfl rfl (Yv.pick0 rfl hg7 rfl) (by decide) (.uw rfl (.move rfl) ?_)
  refine JR.gsplit (g := 12) rfl (fun hg12 => ?_) (fun hg12 => ?_)
  ·have hg12' := hg12
   try simp only [decide_eq_true_eq, decide_eq_false_iff_not, Bool.not_eq_true', Bool.not_eq_false', ne_eq, Decidable.not_not, Bool.not_eq_true, Bool.and_eq_true, Bool.or_eq_true, BitVec.reduceToNat] at hg12'
   refine JR.gf (g := 13) rfl rfl rfl rfl hg12 (by decide) ?_
   refine JR.gf (g := 13) rfl rfl rfl rfl hg12 (by decide) ?_
   refine JR.gf (g := 13) rfl rfl rfl rfl hg12 (by decide) ?_
   refine JR.u rfl rfl rfl (Yv.pick1 rfl hg12 rfl) (by decide) (.uw rfl (.move rfl) ?_)
   refine JR.gf (g := 18) rfl rfl rfl rfl rfl (by decide) ?_
   refine JR.gf (g := 18) rfl rfl rfl rfl rfl (by decide) ?_
   refine JR.gf (g := 18) rfl rfl rfl rfl rfl (by decide) ?_
   refine JR.gfm (g := 18) rfl rfl rfl rfl rfl (by decide) ?_ ?_
   ·exact ⟨Subs.sub zq0, .inr (St.keep zq0 zq1)⟩
   refine JR.gfm (g := 18) rfl rfl rfl rfl rfl (by decide) ?_ ?_
   ·exact ⟨Subs.sub zq0, .inl rfl⟩
   refine JR.gf (g := 18) rfl rfl rfl rfl rfl (by decide) ?_
   refine JR.u rfl rfl rfl (Yv.pick1 rfl rfl rfl) (by decide) ?_
   refine .nil (.tn ?_)
   refine .k1 rfl rfl ?_
   refine .seq (.region ?_)
   refine .w (.assign rfl) ?_
   refine .nil (.tn (.ret (.then_ret ?_)))
   exact .dn [] [cGrp γ, Res.mod γ.px γ.P, Res.mod γ.pq γ.Q] (res1 rfl (.tmp rfl)) ⟨congrArg it (by unfold r1E; first | (rw [if_pos (by omega)]; done) | (rw [if_neg (by omega)]; done) | (simp_all; omega)), rfl, rfl⟩
  ·have hg12' := hg12
   try simp only [decide_eq_true_eq, decide_eq_false_iff_not, Bool.not_eq_true', Bool.not_eq_false', ne_eq, Decidable.not_not, Bool.not_eq_true, Bool.and_eq_true, Bool.or_eq_true, BitVec.reduceToNat] at hg12'
   refine JR.ugt (g := 13) rfl rfl rfl rfl rfl hg12 (.fieldAddr fa_113_0 rfl) (by decide) ?_
   refine JR.vgt (g := 13) rfl rfl rfl rfl rfl hg12 (.as (v' := it slot) (.ld one_3 rfl) rfl) (by decide) ?_
   refine JR.ugt (g := 13) rfl rfl rfl rfl rfl hg12 (.bin rfl rfl BinR.geq_i) (by decide) ?_
   refine JR.u rfl rfl rfl (Yv.pick0 rfl hg12 rfl) (by decide) (.uw rfl (.move rfl) ?_)
   refine JR.gsplit (g := 17) rfl (fun hg17 => ?_) (fun hg17 => ?_)
   ·have hg17' := hg17
    try simp only [decide_eq_true_eq, decide_eq_false_iff_not, Bool.not_eq_true', Bool.not_eq_false', ne_eq, Decidable.not_not, Bool.not_eq_true, Bool.and_eq_true, Bool.or_eq_true, BitVec.reduceToNat] at hg17'
    refine JR.gf (g := 18) rfl rfl rfl rfl hg17 (by decide) ?_
    refine JR.gf (g := 18) rfl rfl rfl rfl hg17 (by decide) ?_
    refine JR.gf (g := 18) rfl rfl rfl rfl hg17 (by decide) ?_
    refine JR.gfm (g := 18) rfl rfl rfl rfl hg17 (by decide) ?_ ?_
    ·exact ⟨Subs.sub zq0, .inr (St.keep zq0 zq1)⟩
    refine JR.gfm (g := 18) rfl rfl rfl rfl hg17 (by decide) ?_ ?_
    ·exact ⟨Subs.sub zq0, .inl rfl⟩
    refine JR.gf (g := 18) rfl rfl rfl rfl hg17 (by decide) ?_
    refine JR.u rfl rfl rfl (Yv.pick1 rfl hg17 rfl) (by decide) ?_
    refine .nil (.tn ?_)
    refine .k1 rfl rfl ?_
    refine .seq (.region ?_)
    refine .w (.assign rfl) ?_
    refine .nil (.tn (.ret (.then_ret ?_)))
    exact .dn [] [cGrp γ, Res.mod γ.px γ.P, Res.mod γ.pq γ.Q] (res1 rfl (.tmp rfl)) ⟨congrArg it (by unfold r1E; first | (rw [if_pos (by omega)]; done) | (rw [if_neg (by omega)]; done) | (simp_all; omega)), rfl, rfl⟩
   ·have hg17' := hg17
    try simp only [decide_eq_true_eq, decide_eq_false_iff_not, Bool.not_eq_true', Bool.not_eq_false', ne_eq, Decidable.not_not, Bool.not_eq_true, Bool.and_eq_true, Bool.or_eq_true, BitVec.reduceToNat] at hg17'
    refine JR.vgt (g := 18) rfl rfl rfl rfl rfl hg17 (.ld one_28 rfl) (by decide) ?_
    refine JR.ugt (g := 18) rfl rfl rfl rfl rfl hg17 (.fieldAddr fa_113_0 rfl) (by decide) ?_
    refine JR.vgt (g := 18) rfl rfl rfl rfl rfl hg17 (.asI (slot.toNat : Int) (.ld one_3 rfl)) (by decide) ?_
    refine JR.mgt (g := 18) rfl rfl rfl rfl hg17 (.c (f128_spec slot.toNat (by omega)) body_128) (by decide) ?_
    rintro _ _ _ ⟨rfl, rfl, rfl⟩
    refine kp ?_
    refine JR.mgt (g := 18) rfl rfl rfl rfl hg17 (.c (f169_spec γ hγ (slot.toNat + 1) (small_lt (by omega))) body_169) (by decide) ?_
    rintro _ _ _ ⟨rfl, rfl, rfl⟩
    refine kp ?_
    refine JR.ugt (g := 18) rfl rfl rfl rfl rfl hg17 (.not rfl) (by decide) ?_
    refine JR.u rfl rfl rfl (Yv.pick0 rfl hg17 rfl) (by decide) ?_
    refine .nil (.tn ?_)
    refine .cn rfl (fun hc1 => ?_) (fun hc1 => ?_)
    ·skip
     refine .seq (.region ?_)
     refine .w (.assign rfl) ?_
     refine .nil (.tn (.ret (.then_ret ?_)))
     exact .dn [] [cGrp γ, Res.mod γ.px γ.P, Res.mod γ.pq γ.Q] (res1 rfl (.tmp rfl)) ⟨congrArg it (by unfold r1E; first | (rw [if_pos (by omega)]; done) | (rw [if_neg (by omega)]; done) | (simp_all; omega)), rfl, rfl⟩
    ·skip
     refine .skip (.tn (.seq (.region ?_)))
     refine .w (.assign rfl) ?_
     refine .nil (.tn (.ret ?_))
     exact .dn [] [cGrp γ, Res.mod γ.px γ.P, Res.mod γ.pq γ.Q] (res1 rfl (.tmp rfl)) ⟨congrArg it (by unfold r1E; first | (rw [if_pos (by omega)]; done) | (rw [if_neg (by omega)]; done) | (simp_all; omega)), rfl, rfl⟩

theorem f178_spec (γ : GP) (hγ : GOk γ) (bg bc bp : Nat) (cv : Value) (com : List Nat) (hc : ∀ a ∈ com, a < 115792089237316195423570985008687907853269984665640564039457584007913129639936) (slot : Int) (sh : Nat) (hsh : sh < 115792089237316195423570985008687907853269984665640564039457584007913129639936) (hr : r1E γ com.length slot = 0) :
  Spec Tryz.prog 178 #[(ptr bg 0), (ptr bc 0), (ptr bp 0)] [Res.cells bc [cv] 38, Res.cells bp (pieC slot sh) 113, Res.cells bg [ptr γ.g 0] 28, Res.rd cv com.length 4 (bks natC com), Res.var 2 ((wd 1).map u64)] [cGrp γ, Res.mod γ.px γ.P, Res.mod γ.pq γ.Q]
   (fun r Γ' H' => r = it (r2E γ com slot.toNat sh) ∧ Γ' = [] ∧ H' = [cGrp γ, Res.mod γ.px γ.P, Res.mod γ.pq γ.Q]) := by
 refine Spec.of_args Tryz.func178 rfl Tryz.ntmps178 (by simp) fun w => ?_
 refine JC.know (φ := com.length ≤ 9223372036854775807) (fun w hs => by obtain ⟨_, _, _, _, _, _, h⟩ := hs.rdForm (.tail _ (.tail _ (.tail _ (.head _)))); unfold maxLen at h; omega) fun hll => ?_
 obtain ⟨⟨hr1, hr2⟩, hr3, hr4, hr5⟩ := r1_ok hr
 have hst : (slot.toNat : Int) = slot := by omega
 refine .seq (.region ?_)
 refine .w (.assign rfl) ?_
 refine .nil (.tn ?_)
 refine .mt (ι := Nat) (fun x => True) (fun T x => (4, ptr x 0) :: (5, it (wantE γ com slot.toNat)) :: T) (fun T _ => T) (fun T x => Res.cells x ((wd (wantV γ com slot.toNat)).map u64) 40 :: T) [0, 2, 3, 19, 20, 21, 22, 23, 24, 25, 26, 27, 28, 29, 30, 31, 32, 33, 34, 35, 36] [] ?_ (fun x hx => ?_)
 ·refine JC.draw (.one 0 (.one 1 (.one 2 (.one 3 (.one 4 (.one 6 (.one 7 (.alt 5 (.alt 8 (.alt 9 (.one 10 (.one 11 (.one 12 (.one 13 (.one 14 (.one 15 .nil)))))) (.alt 13 (.one 9 (.one 10 (.one 11 (.one 12 (.one 14 (.one 15 .nil)))))) .nil)) (.alt 13 (.one 8 (.one 9 (.one 10 (.one 11 (.one 12 (.one 14 (.one 15 .nil))))))) .nil)) (.alt 13 (.one 5 (.one 8 (.one 9 (.one 10 (.one 11 (.one 12 (.one 14 (.one 15 .nil)))))))) .nil))))))))) (fun i => ([14] : List Nat).contains i) (fun i => ([5, 8, 9, 13, 14] : List Nat).contains i) (fun i => ([3, 7, 10, 11, 12, 15] : List Nat).contains i) mixed (by kernel_rfl) (by decide) (by kernel_rfl) ?_
  refine .w rfl (.ld one_28 rfl) (.w rfl (.ld one_38 rfl) (.w rfl (.ld one_28 rfl) (.uw rfl (.fieldAddr fa_113_0 rfl) (.w rfl (.as (v' := it (slot.toNat : Int)) (.ld one_3 rfl) (congrArg it hst.symm)) (.w rfl (.ld one_38 rfl) (.uw rfl (.len Tryz.underlying38 rfl) ?_))))))
  refine JR.alt rfl ?_ ?_
  ·refine .mw rfl (.c (f128_spec slot.toNat (by omega)) body_128) ?_
   rintro _ _ _ ⟨rfl, rfl, rfl⟩
   refine kp ?_
   refine JR.alt rfl ?_ ?_
   ·refine .mw rfl (.cb (f180_spec γ hγ (slot.toNat + 1) (small_lt (by omega)) com.length hr1 (by omega)) body_180 (h0 := by rintro _ _ _ ⟨_, _, h, _⟩; exact h)) ?_
    rintro v15 _ _ ⟨_, ⟨_, rfl, _, rfl⟩, hΓ, hH⟩
    simp only [List.cons_append, List.nil_append] at hH; subst hΓ hH
    rw [show Res.row v15 com.length 40 4 (bks natC (powL γ.Q (slot.toNat + 1) com.length)) = Res.row v15 (powL γ.Q (slot.toNat + 1) com.length).length 40 4 (bks natC (powL γ.Q (slot.toNat + 1) com.length)) from by rw [powL_len]]
    refine kp ?_
    refine JR.alt rfl ?_ ?_
    ·refine .mw rfl (.c (f179_spec γ hγ cv v15 com (powL γ.Q (slot.toNat + 1) com.length) hc (powL_lt hγ.q1 hγ.qb _ _)) body_179) ?_
     rintro _ _ _ ⟨rfl, rfl, rfl⟩
     refine kp ?_
     refine .uw rfl (.move rfl) (.uw rfl (.as (v' := .agg ((wd (wantV γ com slot.toNat)).map u64).toArray) (.extract rfl rfl) rfl) (.uw rfl (.as (v' := it (wantE γ com slot.toNat)) (.extract rfl rfl) rfl) ?_))
     refine .mw rfl (Mv.alloc zero_40) ?_
     rintro _ _ _ ⟨b4, rfl, rfl, rfl⟩
     refine kp ?_
     refine .mw0 rfl (.sa sz_40) ?_
     rintro _ _ _ ⟨rfl, rfl⟩
     refine kp ?_
     refine .uw rfl (.assign rfl) (.nil ?_)
     refine .hd b4 ?_
     trivial
    refine JA.alt rfl ?_ ?_
    ·refine .mw rfl (Mv.alloc zero_40) ?_
     rintro _ _ _ ⟨b4, rfl, rfl, rfl⟩
     refine kp ?_
     refine .mw rfl (.c (f179_spec γ hγ cv v15 com (powL γ.Q (slot.toNat + 1) com.length) hc (powL_lt hγ.q1 hγ.qb _ _)) body_179) ?_
     rintro _ _ _ ⟨rfl, rfl, rfl⟩
     refine kp ?_
     refine .uw rfl (.move rfl) (.uw rfl (.as (v' := .agg ((wd (wantV γ com slot.toNat)).map u64).toArray) (.extract rfl rfl) rfl) (.uw rfl (.as (v' := it (wantE γ com slot.toNat)) (.extract rfl rfl) rfl) ?_))
     refine .mw0 rfl (.sa sz_40) ?_
     rintro _ _ _ ⟨rfl, rfl⟩
     refine kp ?_
     refine .uw rfl (.assign rfl) (.nil ?_)
     refine .hd b4 ?_
     trivial
    exact JA.nil
   refine JA.alt rfl ?_ ?_
   ·refine .mw rfl (Mv.alloc zero_40) ?_
    rintro _ _ _ ⟨b4, rfl, rfl, rfl⟩
    refine kp ?_
    refine .mw rfl (.cb (f180_spec γ hγ (slot.toNat + 1) (small_lt (by omega)) com.length hr1 (by omega)) body_180 (h0 := by rintro _ _ _ ⟨_, _, h, _⟩; exact h)) ?_
    rintro v15 _ _ ⟨_, ⟨_, rfl, _, rfl⟩, hΓ, hH⟩
    simp only [List.cons_append, List.nil_append] at hH; subst hΓ hH
    rw [show Res.row v15 com.length 40 4 (bks natC (powL γ.Q (slot.toNat + 1) com.length)) = Res.row v15 (powL γ.Q (slot.toNat + 1) com.length).length 40 4 (bks natC (powL γ.Q (slot.toNat + 1) com.length)) from by rw [powL_len]]
    refine kp ?_
    refine .mw rfl (.c (f179_spec γ hγ cv v15 com (powL γ.Q (slot.toNat + 1) com.length) hc (powL_lt hγ.q1 hγ.qb _ _)) body_179) ?_
    rintro _ _ _ ⟨rfl, rfl, rfl⟩
    refine kp ?_
    refine .uw rfl (.move rfl) (.uw rfl (.as (v' := .agg ((wd (wantV γ com slot.toNat)).map u64).toArray) (.extract rfl rfl) rfl) (.uw rfl (.as (v' := it (wantE γ com slot.toNat)) (.extract rfl rfl) rfl) ?_))
    refine .mw0 rfl (.sa sz_40) ?_
    rintro _ _ _ ⟨rfl, rfl⟩
    refine kp ?_
    refine .uw rfl (.assign rfl) (.nil ?_)
    refine .hd b4 ?_
    trivial
   exact JA.nil
  refine JA.alt rfl ?_ ?_
  ·refine .mw rfl (Mv.alloc zero_40) ?_
   rintro _ _ _ ⟨b4, rfl, rfl, rfl⟩
   refine kp ?_
   refine .mw rfl (.c (f128_spec slot.toNat (by omega)) body_128) ?_
   rintro _ _ _ ⟨rfl, rfl, rfl⟩
   refine kp ?_
   refine .mw rfl (.cb (f180_spec γ hγ (slot.toNat + 1) (small_lt (by omega)) com.length hr1 (by omega)) body_180 (h0 := by rintro _ _ _ ⟨_, _, h, _⟩; exact h)) ?_
   rintro v15 _ _ ⟨_, ⟨_, rfl, _, rfl⟩, hΓ, hH⟩
   simp only [List.cons_append, List.nil_append] at hH; subst hΓ hH
   rw [show Res.row v15 com.length 40 4 (bks natC (powL γ.Q (slot.toNat + 1) com.length)) = Res.row v15 (powL γ.Q (slot.toNat + 1) com.length).length 40 4 (bks natC (powL γ.Q (slot.toNat + 1) com.length)) from by rw [powL_len]]
   refine kp ?_
   refine .mw rfl (.c (f179_spec γ hγ cv v15 com (powL γ.Q (slot.toNat + 1) com.length) hc (powL_lt hγ.q1 hγ.qb _ _)) body_179) ?_
   rintro _ _ _ ⟨rfl, rfl, rfl⟩
   refine kp ?_
   refine .uw rfl (.move rfl) (.uw rfl (.as (v' := .agg ((wd (wantV γ com slot.toNat)).map u64).toArray) (.extract rfl rfl) rfl) (.uw rfl (.as (v' := it (wantE γ com slot.toNat)) (.extract rfl rfl) rfl) ?_))
   refine .mw0 rfl (.sa sz_40) ?_
   rintro _ _ _ ⟨rfl, rfl⟩
   refine kp ?_
   refine .uw rfl (.assign rfl) (.nil ?_)
   refine .hd b4 ?_
   trivial
  exact JA.nil
 ·obtain ⟨b4, hb4⟩ : ∃ b4, b4 = x := ⟨_, rfl⟩
  subst hb4
  refine .seq (.seq ?_)
  refine JC.draw (.one 0 (.one 1 (.one 2 (.one 3 (.one 4 (.one 5 (.one 6 (.one 7 (.one 8 (.one 9 (.one 10 (.one 11 (.one 13 (.one 12 (.one 14 (.one 15 (.one 16 .nil))))))))))))))))) (fun i => ([] : List Nat).contains i) (fun i => ([6, 12] : List Nat).contains i) (fun i => ([0, 1, 2, 4, 7, 8, 10, 14, 15, 16] : List Nat).contains i) mixed (by kernel_rfl) (by decide) (by kernel_rfl) ?_
  refine .uw rfl (.move rfl) (.uw rfl (.bin rfl rfl BinR.eql_i) (.uw rfl (.move rfl) ?_))
  refine JR.gsplit (g := 20) rfl (fun hg21 => ?_) (fun hg21 => ?_)
  ·have hg21' := hg21
   try simp only [decide_eq_true_eq, decide_eq_false_iff_not, Bool.not_eq_true', Bool.not_eq_false', ne_eq, Decidable.not_not, Bool.not_eq_true, Bool.and_eq_true, Bool.or_eq_true, BitVec.reduceToNat] at hg21'
   refine JR.vgt (g := 21) rfl rfl rfl rfl rfl hg21 (.ld one_28 rfl) (by decide) ?_
   refine JR.ugt (g := 21) rfl rfl rfl rfl rfl hg21 (.fieldAddr fa_113_1 rfl) (by decide) ?_
   refine JR.vgt (g := 21) rfl rfl rfl rfl rfl hg21 (.as (v' := .agg ((wd sh).map u64).toArray) (.lda agg_40 rfl) (by rfl)) (by decide) ?_
   refine JR.mgt (g := 21) rfl rfl rfl rfl hg21 (.c (f169_spec γ hγ sh hsh) body_169) (by decide) ?_
   rintro _ _ _ ⟨rfl, rfl, rfl⟩
   refine kp ?_
   refine JR.ugt (g := 21) rfl rfl rfl rfl rfl hg21 (.not rfl) (by decide) ?_
   refine JR.ugt (g := 21) rfl rfl rfl rfl rfl hg21 (.move rfl) (by decide) ?_
   refine JR.gsplit (g := 26) rfl (fun hg27 => ?_) (fun hg27 => ?_)
   ·have hg27' := hg27
    try simp only [decide_eq_true_eq, decide_eq_false_iff_not, Bool.not_eq_true', Bool.not_eq_false', ne_eq, Decidable.not_not, Bool.not_eq_true, Bool.and_eq_true, Bool.or_eq_true, BitVec.reduceToNat] at hg27'
    refine JR.gf (g := 27) rfl rfl rfl rfl hg27 (by decide) ?_
    refine JR.gf (g := 27) rfl rfl rfl rfl hg27 (by decide) ?_
    refine JR.gf (g := 27) rfl rfl rfl rfl hg27 (by decide) ?_
    refine JR.gf (g := 27) rfl rfl rfl rfl hg27 (by decide) ?_
    refine JR.gfm (g := 27) rfl rfl rfl rfl hg27 (by decide) ?_ ?_
    ·exact ⟨Subs.sub zq0, .inr (St.keep zq0 zq1)⟩
    refine JR.gf (g := 27) rfl rfl rfl rfl hg27 (by decide) ?_
    refine JR.ugt (g := 21) rfl rfl rfl rfl rfl hg21 (Yv.pick1 rfl hg27 rfl) (by decide) ?_
    refine JR.u rfl rfl rfl (Yv.pick1 rfl hg21 rfl) (by decide) ?_
    refine .nil (.tn ?_)
    refine .k1 rfl rfl ?_
    refine .region (.w (.assign rfl) ?_)
    refine .nil (.tn (.seq (.region ?_)))
    refine .w (.move rfl) (.w (.assign rfl) ?_)
    refine .nil (.tn (.ret ?_))
    exact .dn [] [cGrp γ, Res.mod γ.px γ.P, Res.mod γ.pq γ.Q] (res1 rfl (.tmp rfl)) ⟨congrArg it (by unfold r2E; first | (rw [if_pos (by simp_all)]; done) | (rw [if_neg (by simp_all)]; done) | (rw [if_neg (by simp_all)]; rfl)), rfl, rfl⟩
   ·have hg27' := hg27
    try simp only [decide_eq_true_eq, decide_eq_false_iff_not, Bool.not_eq_true', Bool.not_eq_false', ne_eq, Decidable.not_not, Bool.not_eq_true, Bool.and_eq_true, Bool.or_eq_true, BitVec.reduceToNat] at hg27'
    refine JR.vgt (g := 27) rfl rfl rfl rfl rfl hg27 (.ld one_28 rfl) (by decide) ?_
    refine JR.ugt (g := 27) rfl rfl rfl rfl rfl hg27 (.fieldAddr fa_113_1 rfl) (by decide) ?_
    refine JR.vgt (g := 27) rfl rfl rfl rfl rfl hg27 (.as (v' := .agg ((wd sh).map u64).toArray) (.lda agg_40 rfl) (by rfl)) (by decide) ?_
    refine JR.vgt (g := 27) rfl rfl rfl rfl rfl hg27 (.lda agg_40 rfl) (by decide) ?_
    refine JR.mgt (g := 27) rfl rfl rfl rfl hg27 (.c (f170_spec γ hγ sh hsh) body_170) (by decide) ?_
    rintro _ _ _ ⟨rfl, rfl, rfl⟩
    refine kp ?_
    refine JR.ugt (g := 27) rfl rfl rfl rfl rfl hg27 (.as (v' := .bool (!decide (γ.G ^ sh % γ.P = wantV γ com slot.toNat))) (.bin rfl rfl (neq_nat wd_len' wd_len')) (congrArg Value.bool (by rw [neq_b (Nat.lt_trans (Nat.mod_lt _ (by have := hγ.p1; omega)) hγ.pb) (wantV_lt hγ)]))) (by decide) ?_
    refine JR.ugt (g := 21) rfl rfl rfl rfl rfl hg21 (Yv.pick0 rfl hg27 rfl) (by decide) ?_
    refine JR.u rfl rfl rfl (Yv.pick1 rfl hg21 rfl) (by decide) ?_
    refine .nil (.tn ?_)
    refine .cn rfl (fun hc1 => ?_) (fun hc1 => ?_)
    ·skip
     refine .region (.w (.assign rfl) ?_)
     refine .nil (.tn (.seq (.region ?_)))
     refine .w (.move rfl) (.w (.assign rfl) ?_)
     refine .nil (.tn (.ret ?_))
     exact .dn [] [cGrp γ, Res.mod γ.px γ.P, Res.mod γ.pq γ.Q] (res1 rfl (.tmp rfl)) ⟨congrArg it (by unfold r2E; first | (rw [if_pos (by simp_all)]; done) | (rw [if_neg (by simp_all)]; done) | (rw [if_neg (by simp_all)]; rfl)), rfl, rfl⟩
    ·skip
     refine .skip (.tn (.seq (.region ?_)))
     refine .w (.move rfl) (.w (.assign rfl) ?_)
     refine .nil (.tn (.ret ?_))
     exact .dn [] [cGrp γ, Res.mod γ.px γ.P, Res.mod γ.pq γ.Q] (res1 rfl (.tmp rfl)) ⟨congrArg it (by unfold r2E; first | (rw [if_pos (by simp_all)]; done) | (rw [if_neg (by simp_all)]; done) | (rw [if_neg (by simp_all)]; rfl)), rfl, rfl⟩
  ·have hg21' := hg21
   try simp only [decide_eq_true_eq, decide_eq_false_iff_not, Bool.not_eq_true', Bool.not_eq_false', ne_eq, Decidable.not_not, Bool.not_eq_true, Bool.and_eq_true, Bool.or_eq_true, BitVec.reduceToNat] at hg21'
   refine JR.gf (g := 21) rfl rfl rfl rfl hg21 (by decide) ?_
   refine JR.gf (g := 21) rfl rfl rfl rfl hg21 (by decide) ?_
   refine JR.gf (g := 21) rfl rfl rfl rfl hg21 (by decide) ?_
   refine JR.gfm (g := 21) rfl rfl rfl rfl hg21 (by decide) ?_ ?_
   ·exact ⟨Subs.sub zq0, .inr (St.keep zq0 zq1)⟩
   refine JR.gf (g := 21) rfl rfl rfl rfl hg21 (by decide) ?_
   refine JR.gf (g := 21) rfl rfl rfl rfl hg21 (by decide) ?_
   refine JR.gu (g := 27) rfl rfl rfl rfl (by decide) ?_
   refine JR.gu (g := 27) rfl rfl rfl rfl (by decide) ?_
   refine JR.gu (g := 27) rfl rfl rfl rfl (by decide) ?_
   refine JR.gu (g := 27) rfl rfl rfl rfl (by decide) ?_
   refine JR.gum (g := 27) rfl rfl rfl rfl (by decide) ?_ ?_
   ·exact ⟨Subs.sub zq0, .inr (St.keep zq0 zq1)⟩
   refine JR.gu (g := 27) rfl rfl rfl rfl (by decide) ?_
   refine JR.gf (g := 21) rfl rfl rfl rfl hg21 (by decide) ?_
   refine JR.u rfl rfl rfl (Yv.pick0 rfl hg21 rfl) (by decide) ?_
   refine .nil (.tn ?_)
   refine .k0 rfl rfl ?_
   refine .skip (.tn (.seq (.region ?_)))
   refine .w (.move rfl) (.w (.assign rfl) ?_)
   refine .nil (.tn (.ret ?_))
   exact .dn [] [cGrp γ, Res.mod γ.px γ.P, Res.mod γ.pq γ.Q] (res1 rfl (.tmp rfl)) ⟨congrArg it (by unfold r2E; first | (rw [if_pos (by simp_all)]; done) | (rw [if_neg (by simp_all)]; done) | (rw [if_neg (by simp_all)]; rfl)), rfl, rfl⟩
theorem zq16 {p : Prop} (h : p := by intro v hv; simp only [List.mem_cons, List.not_mem_nil, or_false] at hv; rcases hv with rfl | rfl <;> rfl) : p := h
theorem ask_body (x : Nat) : Body Tryz.prog (askF x) := by
 unfold askF; split
 ·exact body_176
 ·exact body_178
theorem ask_spec (γ : GP) (hγ : GOk γ) (bg bc bp : Nat) (cv : Value) (com : List Nat) (hc : ∀ a ∈ com, a < 115792089237316195423570985008687907853269984665640564039457584007913129639936) (slot : Int) (sh : Nat) (hsh : sh < 115792089237316195423570985008687907853269984665640564039457584007913129639936) (x : Nat) (hx : x < 2) (hr : x = 1 → r1E γ com.length slot = 0) : Spec Tryz.prog (askF x) (#[] ++ #[] ++ askC bg bc bp x) [Res.cells bc [cv] 38, Res.cells bp (pieC slot sh) 113, Res.cells bg [ptr γ.g 0] 28, Res.rd cv com.length 4 (bks natC com), Res.var 2 ((wd 1).map u64)] [cGrp γ, Res.mod γ.px γ.P, Res.mod γ.pq γ.Q] (fun r Γ' H' => r = it (askE γ com slot sh x) ∧ Γ' = [] ∧ H' = [cGrp γ, Res.mod γ.px γ.P, Res.mod γ.pq γ.Q]) := by
 rcases (show x = 0 ∨ x = 1 by omega) with rfl | rfl
 ·exact f176_spec γ hγ bg bc bp cv com hc slot sh hsh
 ·exact f178_spec γ hγ bg bc bp cv com hc slot sh hsh (hr rfl)

theorem f127_spec (γ : GP) (hγ : GOk γ) (cv : Value) (com : List Nat) (hc : ∀ a ∈ com, a < 115792089237316195423570985008687907853269984665640564039457584007913129639936) (slot : Int) (sh : Nat) (hsh : sh < 115792089237316195423570985008687907853269984665640564039457584007913129639936) :
  Spec Tryz.prog 127 #[(ptr γ.g 0), cv, (.agg (pieC slot sh).toArray)] [Res.rd cv com.length 4 (bks natC com), Res.var 2 ((wd 1).map u64)] [cGrp γ, Res.mod γ.px γ.P, Res.mod γ.pq γ.Q]
   (fun r Γ' H' => r = it (rightF γ com slot sh) ∧ Γ' = [] ∧ H' = [cGrp γ, Res.mod γ.px γ.P, Res.mod γ.pq γ.Q]) := by
 refine Spec.of_args Tryz.func127 rfl Tryz.ntmps127 (by simp) fun w => ?_
 refine JC.know (φ := cv.oneCell' = true) (fun w hs => by obtain ⟨A, c, rfl, _⟩ := hs.rdForm (.head _); rfl) fun hcv => ?_
 refine .seq (.region ?_)
 refine .bx fun b3 => ?_
 refine .bx fun b4 => ?_
 rw [one_cells hcv]
 refine .bx fun b5 => ?_
 refine .w (.assign rfl) ?_
 refine .nil (.tn (.seq (.seq (.region ?_))))
 refine .w (.makeFunc rfl rfl) (.w (.makeFunc rfl rfl) ?_)
 refine .l1 Tryz.underlying249 info_156 (fun v12 => ?_) (h1 := zq16)
 refine .w (.len Tryz.underlying249 rfl) (.w (.move rfl) ?_)
 refine .nil (.tn (.block ?_))
 refine .lp (ι := Nat) (fun x => x ≤ 2 ∧ (x = 1 → r1E γ com.length slot = 0) ∧ (x = 2 → rightF γ com slot sh = 0)) (fun T x => (14, it (x : Int)) :: T) (fun T _ => T) (fun T _ => T) (fun x => 2 - x) 0 [12, 13] ?_ (fun x hx => ?_)
 ·exact ⟨by decide, fun h => absurd h (by decide), fun h => absurd h (by decide)⟩
 obtain ⟨k, hk⟩ : ∃ k, k = x := ⟨_, rfl⟩
 subst hk
 obtain ⟨hk, hr1, hr2⟩ := hx
 refine .seq (.region ?_)
 refine .w (.bin rfl rfl BinR.lss_i) ?_
 refine .nil (.tn (.seq ?_))
 refine .cn rfl (fun hc1 => ?_) (fun hc1 => ?_)
 ·skip
  refine .skip (.tn (.seq (.block (.seq (.region ?_)))))
  refine .w (.ix1 Tryz.underlying249 sz_156 rfl rfl) (.w (.ld one_156 rfl (hj := by exact ask_at (bg := b3) (bc := b4) (bp := b5) (by omega))) (.w (.assign rfl) ?_))
  refine .nil (.tn (.seq (.region ?_)))
  refine .w (.move rfl) ?_
  refine JO.callF (ask_spec γ hγ b3 b4 b5 cv com hc slot sh hsh k (by omega) hr1) (ask_body k) rfl rfl rfl zq1 zq4 zq14 (by decide) ?_
  rintro _ _ ⟨_, ⟨rfl, _, rfl⟩, hH⟩
  simp only [List.cons_append, List.nil_append] at hH; subst hH
  refine .w (.assign rfl) ?_
  refine .nil (.tn (.seq (.region ?_)))
  refine .w (.move rfl) (.w (.bin rfl rfl BinR.neq_i) ?_)
  refine .nil (.tn ?_)
  refine .cn rfl (fun hc2 => ?_) (fun hc2 => ?_)
  ·have hres : rightF γ com slot sh = askE γ com slot sh k := by
    rcases (show k = 0 ∨ k = 1 by omega) with rfl | rfl
    ·have h2 : ¬ r1E γ com.length slot = 0 := by simpa [askE] using hc2
     rw [rightF, if_neg h2]; rfl
    ·rw [rightF, if_pos (hr1 rfl)]; rfl
   refine .seq (.region ?_)
   refine .w (.move rfl) (.w (.assign rfl) ?_)
   refine .nil (.tn (.ret (.block_ret (.then_ret (.then_ret (.block_ret (.then_ret ?_)))))))
   exact .dn [] [cGrp γ, Res.mod γ.px γ.P, Res.mod γ.pq γ.Q] (res1 rfl (.tmp rfl)) ⟨by rw [hres], rfl, rfl⟩
  ·skip
   refine .skip (.block_normal (.tn (.region ?_)))
   refine .w (.asI ((k + 1 : Nat) : Int) (.bin rfl rfl (BinR.add_i zq3))) (.w (.move rfl) (.nil ?_))
   refine .hd (k + 1) ?_
   refine ⟨⟨by omega, fun h => ?_, fun h => ?_⟩, by omega⟩
   ·obtain rfl : k = 0 := by omega
    simpa [askE] using hc2
   ·obtain rfl : k = 1 := by omega
    rw [rightF, if_pos (hr1 rfl)]; simpa [askE] using hc2
 ·obtain rfl : k = 2 := by omega
  refine .exit (.then_exit (.then_exit (.block_exit (.tn (.seq (.region ?_))))))
  refine .w (.assign rfl) ?_
  refine .nil (.tn (.ret ?_))
  exact .dn [] [cGrp γ, Res.mod γ.px γ.P, Res.mod γ.pq γ.Q] (res1 rfl (.tmp rfl)) ⟨by rw [hr2 rfl], rfl, rfl⟩

theorem f122_spec (γ : GP) (hγ : GOk γ) (cv : Value) (com : List Nat) (hc : ∀ a ∈ com, a < 115792089237316195423570985008687907853269984665640564039457584007913129639936) (s : Nat) (hs : s < 115792089237316195423570985008687907853269984665640564039457584007913129639936) :
  Spec Tryz.prog 122 #[(ptr γ.g 0), cv, (.agg ((wd s).map u64).toArray)] [Res.rd cv com.length 4 (bks natC com)] [cGrp γ, Res.mod γ.px γ.P, Res.mod γ.pq γ.Q]
   (fun r Γ' H' => r = .bool (opensB γ com s) ∧ Γ' = [] ∧ H' = [cGrp γ, Res.mod γ.px γ.P, Res.mod γ.pq γ.Q]) := by
 refine Spec.of_args Tryz.func122 rfl Tryz.ntmps122 (by simp) fun w => ?_
 refine JC.know (φ := com.length ≤ 9223372036854775807) (fun w hs => by obtain ⟨_, _, _, _, _, _, h⟩ := hs.rdForm (.head _); unfold maxLen at h; omega) fun hll => ?_
 refine .seq (.region ?_)
 refine .bx fun b5 => ?_
 refine .w (.assign rfl) ?_
 refine .nil (.tn (.seq ?_))
 refine JC.draw (.one 0 (.one 1 (.one 2 (.one 3 (.one 4 (.one 5 (.one 6 (.one 7 (.one 8 (.one 9 (.one 10 (.one 12 (.one 13 (.one 14 (.one 11 (.one 15 (.one 16 (.one 17 .nil)))))))))))))))))) (fun i => ([11] : List Nat).contains i) (fun i => ([6, 11] : List Nat).contains i) (fun i => ([0, 1, 2, 3, 4, 7, 8, 9, 12, 13, 14, 15, 16, 17] : List Nat).contains i) mixed (by kernel_rfl) (by decide) (by kernel_rfl) ?_
 refine .uw rfl (.move rfl) (.uw rfl (.len Tryz.underlying38 rfl) (.uw rfl (.bin rfl rfl BinR.gtr_i) (.uw rfl (.move rfl) ?_)))
 refine JR.gsplit (g := 9) rfl (fun hg7 => ?_) (fun hg7 => ?_)
 ·have hg7' := hg7
  try simp only [decide_eq_true_eq, decide_eq_false_iff_not, Bool.not_eq_true', Bool.not_eq_false', ne_eq, Decidable.not_not, Bool.not_eq_true, Bool.and_eq_true, Bool.or_eq_true, BitVec.reduceToNat] at hg7'
  have hcl : 0 < com.length := by omega
  refine JR.ugt (g := 10) rfl rfl rfl rfl rfl hg7 (.move rfl) (by decide) ?_
  refine JR.vgt (g := 10) rfl rfl rfl rfl rfl hg7 (.lda agg_40 rfl) (by decide) ?_
  refine JR.mgt (g := 10) rfl rfl rfl rfl hg7 (.c (f169_spec γ hγ s hs) body_169) (by decide) ?_
  rintro _ _ _ ⟨rfl, rfl, rfl⟩
  refine kp ?_
  refine JR.u rfl rfl rfl (Yv.pick1 rfl hg7 rfl) (by decide) (.uw rfl (.move rfl) ?_)
  refine JR.gsplit (g := 14) rfl (fun hg12 => ?_) (fun hg12 => ?_)
  ·have hg12' := hg12
   try simp only [decide_eq_true_eq, decide_eq_false_iff_not, Bool.not_eq_true', Bool.not_eq_false', ne_eq, Decidable.not_not, Bool.not_eq_true, Bool.and_eq_true, Bool.or_eq_true, BitVec.reduceToNat] at hg12'
   refine JR.ugt (g := 15) rfl rfl rfl rfl rfl hg12 (.move rfl) (by decide) ?_
   refine JR.vgt (g := 15) rfl rfl rfl rfl rfl hg12 (.lda agg_40 rfl) (by decide) ?_
   refine JR.ugt (g := 15) rfl rfl rfl rfl rfl hg12 (.move rfl) (by decide) ?_
   refine JR.ugt (g := 15) rfl rfl rfl rfl rfl hg12 (.ix (j := 0) Tryz.underlying38 sz_40 rfl rfl) (by decide) ?_
   refine JR.ugt (g := 15) rfl rfl rfl rfl rfl hg12 (.as (v' := .agg ((wd (com.getD 0 0)).map u64).toArray) (.lda agg_40 rfl (hm := by first | exact AM.own zq5 (by rw [bks_len]; omega) | exact AM.ro zq5 (by rw [bks_len]; omega) | exact AM.ownAt zq5 (by rw [bks_len]; omega) | exact AM.rd zq8 (by rw [bks_len]; omega) | exact AM.row zq7 (by rw [bks_len]; omega))) (congrArg (fun l : List Value => Value.agg l.toArray) (nat_piece (k := 0) (by omega)))) (by decide) ?_
   refine JR.mgt (g := 15) rfl rfl rfl rfl hg12 (.c (f170_spec γ hγ s hs) body_170) (by decide) ?_
   rintro _ _ _ ⟨rfl, rfl, rfl⟩
   refine kp ?_
   refine JR.ugt (g := 15) rfl rfl rfl rfl rfl hg12 (.as (v' := .bool (decide (γ.G ^ s % γ.P = com.getD 0 0))) (.bin rfl rfl (eql_nat wd_len' wd_len')) (congrArg Value.bool (eq_b (Nat.lt_trans (Nat.mod_lt _ (by have := hγ.p1; omega)) hγ.pb) (nat_lt hc (by omega))))) (by decide) ?_
   refine JR.u rfl rfl rfl (Yv.pick1 rfl hg12 rfl) (by decide) (.uw rfl (.assign rfl) ?_)
   refine .nil (.tn (.ret ?_))
   exact .dn [] [cGrp γ, Res.mod γ.px γ.P, Res.mod γ.pq γ.Q] (res1 rfl (.tmp rfl)) ⟨congrArg Value.bool (by unfold opensB; first | (simp_all; done) | (simp_all; omega) | (simp_all; intros; omega)), rfl, rfl⟩
  ·have hg12' := hg12
   try simp only [decide_eq_true_eq, decide_eq_false_iff_not, Bool.not_eq_true', Bool.not_eq_false', ne_eq, Decidable.not_not, Bool.not_eq_true, Bool.and_eq_true, Bool.or_eq_true, BitVec.reduceToNat] at hg12'
   refine JR.gf (g := 15) rfl rfl rfl rfl hg12 (by decide) ?_
   refine JR.gf (g := 15) rfl rfl rfl rfl hg12 (by decide) ?_
   refine JR.gf (g := 15) rfl rfl rfl rfl hg12 (by decide) ?_
   refine JR.gf (g := 15) rfl rfl rfl rfl hg12 (by decide) ?_
   refine JR.gf (g := 15) rfl rfl rfl rfl hg12 (by decide) ?_
   refine JR.gfm (g := 15) rfl rfl rfl rfl hg12 (by decide) ?_ ?_
   ·exact ⟨Subs.sub zq0, .inl rfl⟩
   refine JR.gf (g := 15) rfl rfl rfl rfl hg12 (by decide) ?_
   refine JR.u rfl rfl rfl (Yv.pick0 rfl hg12 rfl) (by decide) (.uw rfl (.assign rfl) ?_)
   refine .nil (.tn (.ret ?_))
   exact .dn [] [cGrp γ, Res.mod γ.px γ.P, Res.mod γ.pq γ.Q] (res1 rfl (.tmp rfl)) ⟨congrArg Value.bool (by unfold opensB; first | (simp_all; done) | (simp_all; omega) | (simp_all; intros; omega)), rfl, rfl⟩
 ·have hg7' := hg7
  try simp only [decide_eq_true_eq, decide_eq_false_iff_not, Bool.not_eq_true', Bool.not_eq_false', ne_eq, Decidable.not_not, Bool.not_eq_true, Bool.and_eq_true, Bool.or_eq_true, BitVec.reduceToNat] at hg7'
  refine JR.gf (g := 10) rfl rfl rfl rfl hg7 (by decide) ?_
  refine JR.gf (g := 10) rfl rfl rfl rfl hg7 (by decide) ?_
  refine JR.gfm (g := 10) rfl rfl rfl rfl hg7 (by decide) ?_ ?_
  ·exact ⟨Subs.sub zq0, .inr (St.keep zq0 zq1)⟩
  refine JR.u rfl rfl rfl (Yv.pick0 rfl hg7 rfl) (by decide) (.uw rfl (.move rfl) ?_)
  refine JR.gf (g := 15) rfl rfl rfl rfl rfl (by decide) ?_
  refine JR.gf (g := 15) rfl rfl rfl rfl rfl (by decide) ?_
  refine JR.gf (g := 15) rfl rfl rfl rfl rfl (by decide) ?_
  refine JR.gf (g := 15) rfl rfl rfl rfl rfl (by decide) ?_
  refine JR.gf (g := 15) rfl rfl rfl rfl rfl (by decide) ?_
  refine JR.gfm (g := 15) rfl rfl rfl rfl rfl (by decide) ?_ ?_
  ·exact ⟨Subs.sub zq0, .inl rfl⟩
  refine JR.gf (g := 15) rfl rfl rfl rfl rfl (by decide) ?_
  refine JR.u rfl rfl rfl (Yv.pick0 rfl rfl rfl) (by decide) (.uw rfl (.assign rfl) ?_)
  refine .nil (.tn (.ret ?_))
  exact .dn [] [cGrp γ, Res.mod γ.px γ.P, Res.mod γ.pq γ.Q] (res1 rfl (.tmp rfl)) ⟨congrArg Value.bool (by unfold opensB; first | (simp_all; done) | (simp_all; omega) | (simp_all; intros; omega)), rfl, rfl⟩
theorem f70_spec (γ : GP) (hS : SmG γ) (cv lv : Value) (com : List Nat) (hc : ∀ a ∈ com, a < 115792089237316195423570985008687907853269984665640564039457584007913129639936) (h1 : 0 < com.length) (L : List (Int × N256)) (hr : ∀ e ∈ L, rightF γ com e.1 e.2.1 = 0) (hn : (L.map (·.1)).Nodup) (hL : L.length ≤ 1000) :
  Spec Tryz.prog 70 #[(ptr γ.g 0), cv, lv] [Res.rd cv com.length 4 (bks natC com), Res.rd lv L.length 5 (bks piB L), Res.var 2 ((wd 1).map u64)] [cGrp γ, Res.mod γ.px γ.P, Res.mod γ.pq γ.Q]
   (fun r Γ' H' => r = .tuple #[(.agg ((wd (if L.length < com.length then 0 else lgN γ (com.getD 0 0))).map u64).toArray), it (if L.length < com.length then 3 else 0)] ∧ Γ' = [] ∧ H' = [cGrp γ, Res.mod γ.px γ.P, Res.mod γ.pq γ.Q]) := by
 refine Spec.of_args Tryz.func70 rfl Tryz.ntmps70 (by simp) fun w => ?_
 have hγ := hS.ok
 have hP := plc_ok hS hr hn
 refine JC.know (φ := com.length ≤ 9223372036854775807) (fun w hs => by obtain ⟨_, _, _, _, _, _, h⟩ := hs.rdForm (.head _); unfold maxLen at h; omega) fun hcl => ?_
 refine JC.know (φ := L.length ≤ 9223372036854775807) (fun w hs => by obtain ⟨_, _, _, _, _, _, h⟩ := hs.rdForm (.tail _ (.head _)); unfold maxLen at h; omega) fun hll => ?_
 refine .seq (.region ?_)
 refine .al zero_40 fun b6 => ?_
 refine .w (.assign rfl) ?_
 refine .nil (.tn (.seq (.region ?_)))
 refine JO.nilRow 199 8 ?_
 refine .w (.assign rfl) ?_
 refine .nil (.tn (.seq (.seq (.region ?_))))
 refine .w (.move rfl) (.w (.len Tryz.underlying111 rfl) (.w (.move rfl) ?_))
 refine .nil (.tn (.block ?_))
 refine .lp (ι := Nat × Value) (fun x => x.1 ≤ L.length) (fun T x => (17, it (x.1 : Int)) :: (8, x.2) :: T) (fun T _ => T) (fun T x => Res.row x.2 x.1 199 8 (bks pntB (pntL (L.take x.1))) :: T) (fun x => L.length - x.1) (0, .slice none 0 0) [0, 1, 2, 6, 12, 14, 15, 16, 39, 40, 41, 42, 43, 44, 45, 46, 47, 48, 49, 50, 51, 52, 53, 54, 55, 56, 57, 58, 59, 60, 61, 62, 63, 64, 65, 66, 67, 68, 69, 70] ?_ (fun x hx => ?_)
 ·exact Nat.zero_le _
 obtain ⟨k, vo⟩ := x
 have hk := hx
 dsimp only at hk ⊢
 refine .seq (.region ?_)
 refine .w (.bin rfl rfl BinR.lss_i) ?_
 refine .nil (.tn (.seq ?_))
 refine .cn rfl (fun hc1 => ?_) (fun hc1 => ?_)
 ·have hrk := hr _ (getD_mem' PQ (show k < L.length by omega))
  have hs0 := right_slot hrk
  refine .skip (.tn (.seq (.block (.seq (.region ?_)))))
  refine .w (.ix Tryz.underlying111 sz_113 rfl rfl) (.w (.as (v' := .agg (piB (L.getD k PQ)).toArray) (.lda agg_113 rfl (hm := by first | exact AM.own zq5 (by rw [bks_len]; omega) | exact AM.ro zq5 (by rw [bks_len]; omega) | exact AM.ownAt zq5 (by rw [bks_len]; omega) | exact AM.rd zq8 (by rw [bks_len]; omega) | exact AM.row zq7 (by rw [bks_len]; omega))) (congrArg (fun l : List Value => Value.agg l.toArray) (bks_piece (f := piB) PQ (by omega)))) (.al zero_113 fun b10 => ?_))
  refine .sa sz_113 ?_ (h1 := (FS.one (f := piB) _))
  refine JO.frz (r := Res.cells b10 (piB (L.getD k PQ)) 113) zq12 ?_
  refine .nil (.tn (.seq (.seq (.region ?_))))
  refine .w (.move rfl) (.w (.move rfl) (.w (.as (v' := .agg (pieC (L.getD k PQ).1 (L.getD k PQ).2.1).toArray) (.lda agg_113 rfl) (by rfl)) (.c (f127_spec γ hγ cv com hc (L.getD k PQ).1 (L.getD k PQ).2.1 (L.getD k PQ).2.2) body_127 ?_)))
  rw [hrk]
  refine .w (.assign rfl) ?_
  refine .nil (.tn (.seq (.region ?_)))
  refine .w (.move rfl) (.w (.as (v' := .bool false) (.bin rfl rfl BinR.neq_i) rfl) ?_)
  refine .nil (.tn ?_)
  refine .cf rfl ?_
  refine .skip (.tn ?_)
  refine JC.draw (.one 0 (.one 1 (.one 2 (.one 4 (.one 5 (.one 3 (.one 6 (.one 7 (.one 8 (.one 9 .nil)))))))))) (fun i => ([3, 7, 8] : List Nat).contains i) (fun i => ([3, 7, 8] : List Nat).contains i) (fun i => ([0, 1, 2, 4, 5, 6, 9] : List Nat).contains i) mixed (by kernel_rfl) (by decide) (by kernel_rfl) ?_
  refine .uw rfl (.move rfl) (.uw rfl (.fieldAddr fa_113_0 rfl) (.uw rfl (.asI ((L.getD k PQ).1.toNat : Int) (.ld one_3 rfl)) (.uw rfl (.fieldAddr fa_113_1 rfl) (.uw rfl (.as (v' := .agg ((wd (L.getD k PQ).2.1).map u64).toArray) (.lda agg_40 rfl) (by rfl)) ?_))))
  refine .mw rfl (.c (f128_spec (L.getD k PQ).1.toNat (by omega)) body_128) ?_
  rintro _ _ _ ⟨rfl, rfl, rfl⟩
  refine kp ?_
  refine .uw rfl (.build (cs := (pntB ((L.getD k PQ).1.toNat + 1, (L.getD k PQ).2.1))) bld_199 rfl (by kernel_rfl)) ?_
  refine .mw rfl (.ls Tryz.underlying196 info_199 (hsz := (by intro v hv; obtain rfl := List.mem_singleton.1 hv; rfl))) ?_
  rintro v36 _ _ ⟨rfl, rfl⟩
  refine kp ?_
  refine .mw rfl (.ap Tryz.underlying196 info_199 (hone := (by intro v hv; rw [show (List.flatMap (fun v => v.cells.toList) [Value.agg (pntB ((L.getD k PQ).1.toNat + 1, (L.getD k PQ).2.1)).toArray]) = pntB ((L.getD k PQ).1.toNat + 1, (L.getD k PQ).2.1) from by simp] at hv; exact FS.one (f := pntB) _ _ hv))) ?_
  rintro v37 _ _ ⟨rfl, rfl⟩
  refine kp ?_
  rw [show bks pntB (pntL (L.take k)) ++ List.flatMap (fun v => v.cells.toList) [Value.agg (pntB ((L.getD k PQ).1.toNat + 1, (L.getD k PQ).2.1)).toArray] = bks pntB (pntL (L.take (k + 1))) from by rw [take_snoc PQ (show k < L.length by omega)]; unfold pntL; rw [List.map_append, bks_app]; simp [bks]]
  refine .uw rfl (.assign rfl) ?_
  refine .nil (.block_normal (.tn (.region ?_)))
  refine .w (.asI ((k + 1 : Nat) : Int) (.bin rfl rfl (BinR.add_i zq3))) (.w (.move rfl) (.nil ?_))
  refine .hd (k + 1, v37) ?_
  exact ⟨by dsimp only; omega, by dsimp only; omega⟩
 ·obtain rfl : k = L.length := by omega
  refine .exit (.then_exit (.then_exit (.block_exit (.tn (.seq (.region ?_))))))
  refine .mm itK blV fun b39 => ?_
  refine .w (.assign rfl) ?_
  refine .nil (.tn (.seq (.seq (.region ?_))))
  refine .w (.move rfl) (.w (.len Tryz.underlying111 rfl) (.w (.move rfl) ?_))
  refine .nil (.tn (.block ?_))
  refine .lp (ι := Nat × MM Int Bool) (fun x => x.1 ≤ L.length ∧ SlI L x.1 x.2) (fun T x => (42, it (x.1 : Int)) :: T) (fun T _ => T) (fun T x => mpR b39 itK blV x.2 :: T) (fun x => L.length - x.1) (0, MM.nil) [0, 1, 2, 6, 7, 8, 12, 40, 41, 50, 51, 52, 53, 54, 55, 56, 57, 58, 59, 60, 61, 62, 63, 64, 65, 66, 67, 68, 69, 70] ?_ (fun x hx => ?_)
  ·exact ⟨Nat.zero_le _, SlI.nil L⟩
  obtain ⟨j, m⟩ := x
  obtain ⟨hj, hI⟩ := hx
  dsimp only at hj hI ⊢
  refine .seq (.region ?_)
  refine .w (.bin rfl rfl BinR.lss_i) ?_
  refine .nil (.tn (.seq ?_))
  refine .cn rfl (fun hc3 => ?_) (fun hc3 => ?_)
  ·skip
   refine .skip (.tn (.seq (.block (.seq (.region ?_)))))
   refine .w (.ix Tryz.underlying111 sz_113 rfl rfl) (.w (.as (v' := .agg (piB (L.getD j PQ)).toArray) (.lda agg_113 rfl (hm := by first | exact AM.own zq5 (by rw [bks_len]; omega) | exact AM.ro zq5 (by rw [bks_len]; omega) | exact AM.ownAt zq5 (by rw [bks_len]; omega) | exact AM.rd zq8 (by rw [bks_len]; omega) | exact AM.row zq7 (by rw [bks_len]; omega))) (congrArg (fun l : List Value => Value.agg l.toArray) (bks_piece (f := piB) PQ (by omega)))) (.al zero_113 fun b14 => ?_))
   refine .sa sz_113 ?_ (h1 := (FS.one (f := piB) _))
   refine JO.frz (r := Res.cells b14 (piB (L.getD j PQ)) 113) zq12 ?_
   refine .nil (.tn (.region ?_))
   refine .w (.move rfl) (.w (.fieldAddr fa_113_0 rfl) (.w (.as (v' := it (L.getD j PQ).1) (.ld one_3 rfl) (by rfl)) ?_))
   refine .mu ((L.getD j PQ).1) true Tryz.underlying102 mkey_102 ?_
   refine .nil (.block_normal (.tn (.region ?_)))
   refine .w (.asI ((j + 1 : Nat) : Int) (.bin rfl rfl (BinR.add_i zq3))) (.w (.move rfl) (.nil ?_))
   refine .hd (j + 1, m.put (L.getD j PQ).1 true) ?_
   exact ⟨⟨by dsimp only; omega, hI.step hn (by omega)⟩, by dsimp only; omega⟩
  ·obtain rfl : j = L.length := by omega
   have hml := hI.len
   refine .exit (.then_exit (.then_exit (.block_exit (.tn (.seq (.block (.seq (.region ?_))))))))
   refine .w (.move rfl) (.w (.asI (L.length : Int) (.len_m Tryz.underlying102 rfl)) (.w (.move rfl) (.w (.len Tryz.underlying111 rfl) (.w (.asF (.bin rfl rfl BinR.lss_i)) (.w (.assign rfl) ?_)))))
   refine .nil (.tn ?_)
   refine .cf rfl ?_
   refine .seq (.region ?_)
   refine .w (.move rfl) (.w (.len Tryz.underlying111 rfl) (.w (.move rfl) (.w (.len Tryz.underlying38 rfl) (.w (.bin rfl rfl BinR.lss_i) (.w (.assign rfl) ?_)))))
   refine .nil (.tn ?_)
   refine .cn rfl (fun hc5 => ?_) (fun hc5 => ?_)
   ·skip
    refine .seq (.region ?_)
    refine .w (.as (v' := .agg ((wd 0).map u64).toArray) (.build bld_40 rfl rfl) (by rfl)) (.sa sz_40 ?_)
    refine .w (.assign rfl) ?_
    refine .nil (.tn (.ret (.block_ret (.then_ret ?_))))
    exact .dn [] [cGrp γ, Res.mod γ.px γ.P, Res.mod γ.pq γ.Q] (res2 rfl (.cl agg_40) (.tmp rfl)) ⟨by rw [if_pos (show L.length < com.length by omega), if_pos (show L.length < com.length by omega)], rfl, rfl⟩
   ·skip
    refine .skip (.block_normal (.tn (.seq (.region ?_))))
    refine .w (.move rfl) (.c (f53_spec γ) body_53 ?_)
    refine .w (.move rfl) ?_
    refine JO.freeze (v := vo) zq12 (by decide) ?_
    rw [show Res.rd vo L.length 8 (bks pntB (pntL (L.take L.length))) = Res.rd vo (pntL L).length 8 (bks pntB (pntL L)) from by rw [List.take_length, pntL_len]]
    refine .cs (f130_spec vo (pntL L).length (bks pntB (pntL L))) body_130 ?_
    rintro vc _ _ ⟨_, rfl, rfl⟩
    refine .ap ?_
    refine .ap ?_
    refine .c (f129_spec γ.pq γ.Q hγ.qb hγ.q1 hγ.qo hS.iv vc (pntL L) (by rw [pntL_1]; exact hP) (fun e he => by
 obtain ⟨x, _, rfl⟩ := List.mem_map.1 he
 exact x.2.2) (by rw [pntL_len]; exact hL)) body_129 ?_
    rw [pntL_1, pntL_2, recovers hS hr hn h1 (by omega)]
    refine .w (.as (v' := .agg ((wd (lgN γ (com.getD 0 0))).map u64).toArray) (.extract rfl rfl) rfl) (.w (.as (v' := it 0) (.extract rfl rfl) rfl) (.sa sz_40 ?_))
    refine .w (.assign rfl) ?_
    refine .nil (.tn (.ret ?_))
    exact .dn [] [cGrp γ, Res.mod γ.px γ.P, Res.mod γ.pq γ.Q] (res2 rfl (.cl agg_40) (.tmp rfl)) ⟨by rw [if_neg (show ¬ L.length < com.length by omega), if_neg (show ¬ L.length < com.length by omega)], rfl, rfl⟩
end Go.Proofs.YtmhiapebljfebaaGreatDoor
