/- Texts of ours, gathered: EB EC EE QD QF EF EG. -/
import Derived.Test.YtmhiapebljfebaaGreatDoorR09
set_option linter.unusedVariables false
set_option linter.unusedSimpArgs false
set_option maxRecDepth 100000
/- Walks: a deal. -/
namespace Go.Proofs.YtmhiapebljfebaaGreatDoor
open Go.RowKit
theorem f119_spec (z : ES) (hγ : GOk z.γ) (bs a : Nat) (ha : a < 115792089237316195423570985008687907853269984665640564039457584007913129639936) :
  Spec Tryz.prog 119 #[(.agg ((wd a).map u64).toArray), (ptr bs 0)] [Res.var 2 ((wd 1).map u64), Res.cells z.s (stC z) 100] [cGrp z.γ, Res.mod z.γ.px z.γ.P, Res.mod z.γ.pq z.γ.Q, Res.cells bs [ptr z.s 0] 30]
   (fun r Γ' H' => r = .bool (!memB z.γ a) ∧ Γ' = [] ∧ H' = [cGrp z.γ, Res.mod z.γ.px z.γ.P, Res.mod z.γ.pq z.γ.Q, Res.cells bs [ptr z.s 0] 30]) := by
 refine Spec.of_args Tryz.func119 rfl Tryz.ntmps119 (by simp) fun w => ?_
 refine .seq (.region ?_)
 refine .bx fun b2 => ?_
 refine .w (.assign rfl) ?_
 refine .nil (.tn (.seq ?_))
 refine JC.draw (.one 0 (.one 1 (.one 2 (.one 3 (.one 4 (.one 5 (.one 6 (.one 7 .nil)))))))) (fun i => ([5] : List Nat).contains i) (fun i => ([5] : List Nat).contains i) (fun i => ([1, 2, 6, 7] : List Nat).contains i) mixed (by kernel_rfl) (by decide) (by kernel_rfl) ?_
 refine .w rfl (.ld one_30 rfl) (.uw rfl (.nilCheck rfl) (.uw rfl (.fieldAddr fa_100_0 rfl) (.w rfl (.ld one_28 rfl) (.w rfl (.lda agg_40 rfl) ?_))))
 refine .mw rfl (.c (f120_spec z.γ hγ a ha) body_120) ?_
 rintro _ _ _ ⟨rfl, rfl, rfl⟩
 refine kp ?_
 refine .uw rfl (.not rfl) (.uw rfl (.assign rfl) ?_)
 refine .nil (.tn (.ret ?_))
 exact .dn [] [cGrp z.γ, Res.mod z.γ.px z.γ.P, Res.mod z.γ.pq z.γ.Q, Res.cells bs [ptr z.s 0] 30] (res1 rfl (.tmp rfl)) ⟨rfl, rfl, rfl⟩

theorem f168D_spec (z : ES) (hγ : GOk z.γ) (bs : Nat) (lv : Value) (l : List Nat) (hl : ∀ a ∈ l, a < 115792089237316195423570985008687907853269984665640564039457584007913129639936) :
  Spec Tryz.prog 168 #[lv, (.func (.func 119) #[] #[ptr bs 0])] [Res.rd lv l.length 4 (bks natC l), Res.var 2 ((wd 1).map u64), Res.cells z.s (stC z) 100] [cGrp z.γ, Res.mod z.γ.px z.γ.P, Res.mod z.γ.pq z.γ.Q, Res.cells bs [ptr z.s 0] 30]
   (fun r Γ' H' => ∃ i : Int, decide (i ≥ 0) = l.any (fun a => !memB z.γ a) ∧ r = it i ∧ Γ' = [] ∧ H' = [cGrp z.γ, Res.mod z.γ.px z.γ.P, Res.mod z.γ.pq z.γ.Q, Res.cells bs [ptr z.s 0] 30]) := by
 refine Spec.of_args Tryz.func168 rfl Tryz.ntmps168 (by simp) fun w => ?_
 refine JC.know (φ := l.length ≤ 9223372036854775807) (fun w hs => by obtain ⟨_, _, _, _, _, _, h⟩ := hs.rdForm (.head _); unfold maxLen at h; omega) fun hll => ?_
 refine .seq (.region ?_)
 refine .w (.assign rfl) ?_
 refine .nil (.tn (.seq (.seq (.region ?_))))
 refine .w (.move rfl) (.w (.len Tryz.underlying38 rfl) (.w (.move rfl) ?_))
 refine .nil (.tn (.block ?_))
 refine .lp (ι := Nat) (fun x => x ≤ l.length ∧ ∀ j, j < x → (!memB z.γ (l.getD j 0)) = false) (fun T x => (8, it (x : Int)) :: T) (fun T _ => T) (fun T _ => T) (fun x => l.length - x) 0 [0, 1, 7] ?_ (fun x hx => ?_)
 ·exact ⟨Nat.zero_le _, fun j hj => absurd hj (Nat.not_lt_zero _)⟩
 obtain ⟨k, hk⟩ : ∃ k, k = x := ⟨_, rfl⟩
 subst hk
 obtain ⟨hk, hall⟩ := hx
 refine .seq (.region ?_)
 refine .w (.bin rfl rfl BinR.lss_i) ?_
 refine .nil (.tn (.seq ?_))
 refine .cn rfl (fun hc1 => ?_) (fun hc1 => ?_)
 ·skip
  refine .skip (.tn (.seq (.block (.seq (.region ?_)))))
  refine .w (.move rfl) (.w (.assign rfl) ?_)
  refine .nil (.tn (.seq (.region ?_)))
  refine .w (.move rfl) (.w (.move rfl) (.w (.move rfl) (.w (.ix Tryz.underlying38 sz_40 rfl rfl) (.w (.as (v' := .agg ((wd (l.getD k 0)).map u64).toArray) (.lda agg_40 rfl (hm := by first | exact AM.own zq5 (by rw [bks_len]; omega) | exact AM.ro zq5 (by rw [bks_len]; omega) | exact AM.ownAt zq5 (by rw [bks_len]; omega) | exact AM.rd zq8 (by rw [bks_len]; omega) | exact AM.row zq7 (by rw [bks_len]; omega))) (congrArg (fun l : List Value => Value.agg l.toArray) (nat_piece (by omega)))) ?_))))
  refine JO.callF (f119_spec z hγ bs (l.getD k 0) (nat_lt hl (by omega))) body_119 rfl rfl rfl zq1 zq4 zq14 (by decide) ?_
  rintro _ _ ⟨_, ⟨rfl, _, rfl⟩, hH⟩
  simp only [List.cons_append, List.nil_append] at hH; subst hH
  refine .nil (.tn ?_)
  refine .cn rfl (fun hc2 => ?_) (fun hc2 => ?_)
  ·skip
   refine .seq (.region ?_)
   refine .w (.move rfl) (.w (.assign rfl) ?_)
   refine .nil (.tn (.ret (.block_ret (.then_ret (.then_ret (.block_ret (.then_ret ?_)))))))
   exact .dn [] [cGrp z.γ, Res.mod z.γ.px z.γ.P, Res.mod z.γ.pq z.γ.Q, Res.cells bs [ptr z.s 0] 30] (res1 rfl (.tmp rfl)) ⟨k, by rw [any_some (j := k) (by omega) (by simpa using hc2)]; simp, rfl, rfl, rfl⟩
  ·skip
   refine .skip (.block_normal (.tn (.region ?_)))
   refine .w (.asI ((k + 1 : Nat) : Int) (.bin rfl rfl (BinR.add_i zq3))) (.w (.move rfl) (.nil ?_))
   refine .hd (k + 1) ?_
   exact ⟨⟨by omega, fun j hj => by rcases Nat.lt_succ_iff_lt_or_eq.1 hj with h | rfl; exact hall j h; simpa using hc2⟩, by omega⟩
 ·obtain rfl : k = l.length := by omega
  refine .exit (.then_exit (.then_exit (.block_exit (.tn (.seq (.region ?_))))))
  refine .w (.assign rfl) ?_
  refine .nil (.tn (.ret ?_))
  exact .dn [] [cGrp z.γ, Res.mod z.γ.px z.γ.P, Res.mod z.γ.pq z.γ.Q, Res.cells bs [ptr z.s 0] 30] (res1 rfl (.tmp rfl)) ⟨-1, by rw [any_none hall]; rfl, rfl, rfl, rfl⟩

theorem f118D_spec (z : ES) (hγ : GOk z.γ) (bs : Nat) (lv : Value) (l : List Nat) (hl : ∀ a ∈ l, a < 115792089237316195423570985008687907853269984665640564039457584007913129639936) :
  Spec Tryz.prog 118 #[lv, (.func (.func 119) #[] #[ptr bs 0])] [Res.rd lv l.length 4 (bks natC l), Res.var 2 ((wd 1).map u64), Res.cells z.s (stC z) 100] [cGrp z.γ, Res.mod z.γ.px z.γ.P, Res.mod z.γ.pq z.γ.Q, Res.cells bs [ptr z.s 0] 30]
   (fun r Γ' H' => r = .bool (l.any (fun a => !memB z.γ a)) ∧ Γ' = [] ∧ H' = [cGrp z.γ, Res.mod z.γ.px z.γ.P, Res.mod z.γ.pq z.γ.Q, Res.cells bs [ptr z.s 0] 30]) := by
 refine Spec.of_args Tryz.func118 rfl Tryz.ntmps118 (by simp) fun w => ?_
 refine .seq (.region ?_)
 refine .w (.assign rfl) ?_
 refine .nil (.tn (.seq (.region ?_)))
 refine .w (.move rfl) (.w (.move rfl) (.cb (f168D_spec z hγ bs lv l hl) body_168 ?_ (h0 := by rintro _ _ _ ⟨_, _, _, h, _⟩; exact h)))
 rintro _ _ ⟨i, hi, rfl, _, rfl⟩
 refine .ap ?_
 refine .w (.as (v' := .bool (l.any (fun a => !memB z.γ a))) (.bin rfl rfl BinR.geq_i) (congrArg Value.bool hi)) (.w (.assign rfl) ?_)
 refine .nil (.tn (.ret ?_))
 exact .dn [] [cGrp z.γ, Res.mod z.γ.px z.γ.P, Res.mod z.γ.pq z.γ.Q, Res.cells bs [ptr z.s 0] 30] (res1 rfl (.tmp rfl)) ⟨rfl, rfl, rfl⟩

theorem f121_spec (z : ES) (hγ : GOk z.γ) (d : DL) (hd : DOk d) (k : Nat) (hps : z.ps[k]? = some d.p) (slot : Int) (v : Nat) (hv : v < 115792089237316195423570985008687907853269984665640564039457584007913129639936) :
  Spec Tryz.prog 121 #[(ptr z.s 0), (it (k : Int)), (it slot), (.agg ((wd v).map u64).toArray)] [Res.cells z.s (stC z) 100, Res.rd z.sv z.S.length 1 (z.S.map u64), Res.rd z.cv z.cnt.length 1 (z.cnt.map it), Res.rd z.ov z.own.length 1 (z.own.map it), Res.rd z.av z.ps.length 1 (z.ps.map fun p => ptr p 0), Res.cells d.p (dlC d) 105, Res.rd d.cv d.com.length 4 (bks natC d.com), Res.var 2 ((wd 1).map u64)] [cGrp z.γ, Res.mod z.γ.px z.γ.P, Res.mod z.γ.pq z.γ.Q]
   (fun r Γ' H' => r = .bool (decide (rightF z.γ d.com slot v = 0)) ∧ Γ' = [] ∧ H' = [cGrp z.γ, Res.mod z.γ.px z.γ.P, Res.mod z.γ.pq z.γ.Q]) := by
 refine Spec.of_args Tryz.func121 rfl Tryz.ntmps121 (by simp) fun w => ?_
 have hkl := ps_lt hps
 refine JC.know (φ := z.ps.length ≤ 9223372036854775807) (fun w hs => by obtain ⟨_, _, _, _, _, _, h⟩ := hs.rdForm (.tail _ (.tail _ (.tail _ (.tail _ (.head _))))); unfold maxLen at h; omega) fun hll => ?_
 refine .seq (.region ?_)
 refine .bx fun b7 => ?_
 refine .w (.assign rfl) ?_
 refine .nil (.tn (.seq ?_))
 refine JC.draw (.one 0 (.one 1 (.one 2 (.one 3 (.one 4 (.one 5 (.one 6 (.one 7 (.one 8 (.one 9 (.one 10 (.one 11 (.one 12 (.one 13 (.one 14 (.one 15 (.one 16 (.one 17 (.one 18 (.one 19 .nil)))))))))))))))))))) (fun i => ([17] : List Nat).contains i) (fun i => ([17] : List Nat).contains i) (fun i => ([0, 1, 2, 4, 5, 6, 8, 9, 11, 12, 14, 16, 18, 19] : List Nat).contains i) mixed (by kernel_rfl) (by decide) (by kernel_rfl) ?_
 refine .uw rfl (.move rfl) (.uw rfl (.nilCheck rfl) (.uw rfl (.fieldAddr fa_100_0 rfl) (.w rfl (.ld one_28 rfl) (.uw rfl (.move rfl) (.uw rfl (.nilCheck rfl) (.uw rfl (.fieldAddr fa_100_7 rfl) ?_))))))
 refine .w rfl (.ld one_98 rfl) (.uw rfl (.move rfl) (.uw rfl (.ix1 Tryz.underlying98 sz_101 rfl rfl) (.w rfl (.ld one_101 rfl (hj := by exact ps_at hps)) (.uw rfl (.nilCheck rfl) (.uw rfl (.fieldAddr fa_105_0 rfl) (.w rfl (.ld one_38 rfl) ?_))))))
 refine .uw rfl (.move rfl) (.w rfl (.lda agg_40 rfl) (.uw rfl (.build (cs := (pieC slot v)) bld_113 rfl (by kernel_rfl)) ?_))
 refine .mw rfl (.c (f127_spec z.γ hγ d.cv d.com hd.com slot v hv) body_127) ?_
 rintro _ _ _ ⟨rfl, rfl, rfl⟩
 refine kp ?_
 refine .uw rfl (.bin rfl rfl BinR.eql_i) (.uw rfl (.assign rfl) ?_)
 refine .nil (.tn (.ret ?_))
 exact .dn [] [cGrp z.γ, Res.mod z.γ.px z.γ.P, Res.mod z.γ.pq z.γ.Q] (res1 rfl (.tmp rfl)) ⟨rfl, rfl, rfl⟩

theorem f93_spec (v : Value) (n : Nat) (xs : List Value) (hn : n ≤ 1000000000) (h1 : ∀ a ∈ xs, a.oneCell' = true) :
  Spec Tryz.prog 93 #[v] [Res.rd v n 4 xs] []
   (fun r Γ' H' => True ∧ Γ' = [] ∧ H' = [Res.row r n 40 4 xs]) := by
 refine Spec.know (φ := ∃ A c, v = .slice A n c ∧ (A = none → xs = []) ∧ xs.length = n * 4 ∧ n ≤ c ∧ n ≤ maxLen) (fun w hs => hs.rdForm (.head _)) ?_
 rintro ⟨A, c, rfl, hA, hl, hc, hm⟩
 refine Spec.of_args Tryz.func93 rfl Tryz.ntmps93 (by simp) fun w => ?_
 refine .seq (.region ?_)
 refine .w (.assign rfl) ?_
 refine .nil (.tn (.seq (.seq (.region ?_))))
 refine .w (.move rfl) (.w (.bin rfl rfl (BinR.eql_s Tryz.underlying38)) ?_)
 refine .nil (.tn ?_)
 refine .cn rfl (fun hc1 => ?_) (fun hc1 => ?_)
 ·have hA0 : A = none := by cases A <;> simp_all
  have hx := hA hA0
  have hn0 : n = 0 := by rw [hx] at hl; simp only [List.length_nil] at hl; omega
  subst hx hn0
  refine .seq (.region ?_)
  refine JO.nilRow 40 4 ?_
  refine JO.v (Yv.assign rfl) (by decide) ?_
  refine .nil (.tn (.ret (.then_ret ?_)))
  exact .dn [] [Res.row (.slice none 0 0) 0 40 4 []] (res1 rfl (.tmp rfl)) ⟨trivial, rfl, rfl⟩
 ·refine .skip (.tn (.seq (.region ?_)))
  refine .le Tryz.underlying38 sz_40 fun v5 => ?_
  refine .w (.move rfl) ?_
  refine .ap Tryz.underlying38 info_40 (fun v7 => ?_) (hone := h1)
  refine .w (.assign rfl) ?_
  refine .nil (.tn (.ret ?_))
  exact .dn [] [Res.row _ (0 + n) 40 4 ([] ++ xs)] (res1 rfl (.tmp rfl)) ⟨trivial, rfl, by rw [Nat.zero_add, List.nil_append]⟩

theorem f58_spec (z : ES) (hγ : GOk z.γ) (d : DL) (hd : DOk d) (k : Nat) (hps : z.ps[k]? = some d.p) (hkS : k < z.S.length) (hT : 0 ≤ z.cfg.T ∧ z.cfg.T ≤ 10) (t : TX) (hf : t.frm = (k : Int)) (htc : ∀ a ∈ t.com, a < 115792089237316195423570985008687907853269984665640564039457584007913129639936) (htv : t.val < 115792089237316195423570985008687907853269984665640564039457584007913129639936) :
  Spec Tryz.prog 58 #[(ptr z.s 0), (.agg (txC t).toArray)] [Res.cells z.s (stC z) 100, Res.rd z.sv z.S.length 1 (z.S.map u64), Res.rd z.cv z.cnt.length 1 (z.cnt.map it), Res.rd z.ov z.own.length 1 (z.own.map it), Res.rd z.av z.ps.length 1 (z.ps.map fun p => ptr p 0), Res.rd t.v t.com.length 4 (bks natC t.com), Res.var 2 ((wd 1).map u64)] [Res.cells d.p (dlC d) 105, Res.row d.cv d.com.length 40 4 (bks natC d.com), mpR d.ba itK blV d.acks, mpR d.bt itK blV d.tried, mpR d.bp itK ntV d.pieces, mpR d.bo itK blV d.opened, cGrp z.γ, Res.mod z.γ.px z.γ.P, Res.mod z.γ.pq z.γ.Q]
   (fun r Γ' H' => ∃ cx, r = it (dealE z.γ z.cfg.T (z.S.getD k 0) d t.com) ∧ Γ' = [] ∧ H' = [Res.cells (dealN d (dealE z.γ z.cfg.T (z.S.getD k 0) d t.com) t.com cx).p (dlC (dealN d (dealE z.γ z.cfg.T (z.S.getD k 0) d t.com) t.com cx)) 105, Res.row (dealN d (dealE z.γ z.cfg.T (z.S.getD k 0) d t.com) t.com cx).cv (dealN d (dealE z.γ z.cfg.T (z.S.getD k 0) d t.com) t.com cx).com.length 40 4 (bks natC (dealN d (dealE z.γ z.cfg.T (z.S.getD k 0) d t.com) t.com cx).com), mpR (dealN d (dealE z.γ z.cfg.T (z.S.getD k 0) d t.com) t.com cx).ba itK blV (dealN d (dealE z.γ z.cfg.T (z.S.getD k 0) d t.com) t.com cx).acks, mpR (dealN d (dealE z.γ z.cfg.T (z.S.getD k 0) d t.com) t.com cx).bt itK blV (dealN d (dealE z.γ z.cfg.T (z.S.getD k 0) d t.com) t.com cx).tried, mpR (dealN d (dealE z.γ z.cfg.T (z.S.getD k 0) d t.com) t.com cx).bp itK ntV (dealN d (dealE z.γ z.cfg.T (z.S.getD k 0) d t.com) t.com cx).pieces, mpR (dealN d (dealE z.γ z.cfg.T (z.S.getD k 0) d t.com) t.com cx).bo itK blV (dealN d (dealE z.γ z.cfg.T (z.S.getD k 0) d t.com) t.com cx).opened, cGrp z.γ, Res.mod z.γ.px z.γ.P, Res.mod z.γ.pq z.γ.Q]) := by
 refine Spec.of_args Tryz.func58 rfl Tryz.ntmps58 (by simp) fun w => ?_
 have hkl := ps_lt hps
 refine JC.know (φ := z.ps.length ≤ 9223372036854775807) (fun w hs => by obtain ⟨_, _, _, _, _, _, h⟩ := hs.rdForm (.tail _ (.tail _ (.tail _ (.tail _ (.head _))))); unfold maxLen at h; omega) fun hl4 => ?_
 refine JC.know (φ := z.S.length ≤ 9223372036854775807) (fun w hs => by obtain ⟨_, _, _, _, _, _, h⟩ := hs.rdForm (.tail _ (.head _)); unfold maxLen at h; omega) fun hl1 => ?_
 refine JC.know (φ := t.com.length ≤ 9223372036854775807) (fun w hs => by obtain ⟨_, _, _, _, _, _, h⟩ := hs.rdForm (.tail _ (.tail _ (.tail _ (.tail _ (.tail _ (.head _)))))); unfold maxLen at h; omega) fun hl5 => ?_
 refine JC.know (φ := t.v.oneCell' = true) (fun w hs => by obtain ⟨A, c, h, _⟩ := hs.rdForm (.tail _ (.tail _ (.tail _ (.tail _ (.tail _ (.head _)))))); rw [h]; rfl) fun htov => ?_
 refine .seq (.region ?_)
 refine .bx fun b2 => ?_
 refine .bx fun b3 => ?_
 refine .w (.assign rfl) ?_
 refine .nil (.tn (.seq ?_))
 refine JC.draw (.one 0 (.one 1 (.one 2 (.one 3 (.one 4 (.one 5 (.one 6 (.one 7 (.one 8 .nil))))))))) (fun i => ([] : List Nat).contains i) (fun i => ([] : List Nat).contains i) (fun i => ([1, 2, 4, 6, 8] : List Nat).contains i) mixed (by kernel_rfl) (by decide) (by kernel_rfl) ?_
 refine .w rfl (.ld one_30 rfl) (.uw rfl (.nilCheck rfl) (.uw rfl (.fieldAddr fa_100_7 rfl) (.w rfl (.ld one_98 rfl) (.uw rfl (.fieldAddr fa_42_1 rfl) (.w rfl (.as (v' := it (k : Int)) (.ld one_3 rfl) (congrArg it hf)) (.uw rfl (.ix1 Tryz.underlying98 sz_101 rfl rfl) ?_))))))
 refine .w rfl (.ld one_101 rfl (hj := by exact ps_at hps)) (.uw rfl (.assign rfl) ?_)
 refine .nil (.tn (.seq (.block (.seq ?_))))
 refine JC.draw (.one 0 (.one 1 (.one 2 (.one 3 (.one 4 (.one 5 (.one 6 (.one 7 (.one 8 (.one 9 .nil)))))))))) (fun i => ([] : List Nat).contains i) (fun i => ([] : List Nat).contains i) (fun i => ([1, 2, 4, 6, 8, 9] : List Nat).contains i) mixed (by kernel_rfl) (by decide) (by kernel_rfl) ?_
 refine .w rfl (.ld one_30 rfl) (.uw rfl (.nilCheck rfl) (.uw rfl (.fieldAddr fa_100_2 rfl) (.w rfl (.ld one_25 rfl) (.uw rfl (.fieldAddr fa_42_1 rfl) (.w rfl (.as (v' := it (k : Int)) (.ld one_3 rfl) (congrArg it hf)) (.uw rfl (.ix1 Tryz.underlying25 sz_22 rfl rfl) ?_))))))
 refine .w rfl (.as (v' := u64 (z.S.getD k 0)) (.ld one_22 rfl (hj := by exact gm (d := 0) (by omega))) rfl) (.uw rfl (.bin rfl rfl (BinR.eql_u64 (b := 0#64))) (.uw rfl (.assign rfl) ?_))
 refine .nil (.tn ?_)
 refine .cn rfl (fun hc1 => ?_) (fun hc1 => ?_)
 ·try simp only [BitVec.reduceToNat] at hc1
  have he : dealE z.γ z.cfg.T (z.S.getD k 0) d t.com = 51 := if_pos hc1
  obtain ⟨cx, -⟩ : ∃ cx : Value, True := ⟨d.cv, trivial⟩
  refine .seq (.region ?_)
  refine .w (.assign rfl) ?_
  refine .nil (.tn (.ret (.block_ret (.then_ret ?_))))
  exact .dn [] [Res.cells d.p _ 105, Res.row _ _ 40 4 _, mpR d.ba itK blV _, mpR d.bt itK blV _, mpR d.bp itK ntV _, mpR d.bo itK blV _, cGrp z.γ, Res.mod z.γ.px z.γ.P, Res.mod z.γ.pq z.γ.Q] (res1 rfl (.tmp rfl)) ⟨cx, by rw [he], rfl, by rw [he]; rfl⟩
 ·try simp only [BitVec.reduceToNat] at hc1
  skip
  refine .seq (.region ?_)
  refine .w (.ld one_30 rfl) (.w (.fieldAddr fa_42_1 rfl) (.w (.as (v' := it (k : Int)) (.ld one_3 rfl) (congrArg it hf)) (.c (f65_spec z d k hps) body_65 ?_)))
  refine .w (.move rfl) ?_
  refine .join 5 34 (.bool (decide (0 < d.com.length ∨ d.mal = true))) ?_ ?_
  ·refine .gn (g := 28) rfl (fun hg29 hg29' => ?_) (fun hg29 hg29' => ?_)
   ·refine .gf (g := 29) rfl rfl hg29 (by decide) ?_
    refine .gf (g := 29) rfl rfl hg29 (by decide) ?_
    refine .gf (g := 29) rfl rfl hg29 (by decide) ?_
    refine .gf (g := 29) rfl rfl hg29 (by decide) ?_
    refine .w (.pick1 rfl hg29 rfl) (.nil ?_)
    refine .head () zq2 (fun _ h => h) (Picks.perm zq1) ?_
    trivial
   ·refine .gt (g := 29) rfl rfl hg29 ?_
    refine .w (.move rfl) ?_
    refine .gt (g := 29) rfl rfl hg29 ?_
    refine .w (.nilCheck rfl) ?_
    refine .gt (g := 29) rfl rfl hg29 ?_
    refine .w (.fieldAddr fa_105_1 rfl) ?_
    refine .gt (g := 29) rfl rfl hg29 ?_
    refine .w (.ld one_4 rfl) (.w (.pick0 rfl hg29 rfl) (.nil ?_))
    refine .head () zq2 (fun _ h => h) (Picks.perm zq1) ?_
    trivial
  ·refine .w (.assign rfl) ?_
   refine .nil (.tn ?_)
   refine .cn rfl (fun hc2 => ?_) (fun hc2 => ?_)
   ·have he : dealE z.γ z.cfg.T (z.S.getD k 0) d t.com = 13 := by rw [dealE, if_neg hc1, if_pos hc2]
    obtain ⟨cx, -⟩ : ∃ cx : Value, True := ⟨d.cv, trivial⟩
    refine .seq (.region ?_)
    refine .w (.assign rfl) ?_
    refine .nil (.tn (.ret (.block_ret (.then_ret ?_))))
    exact .dn [] [Res.cells d.p _ 105, Res.row _ _ 40 4 _, mpR d.ba itK blV _, mpR d.bt itK blV _, mpR d.bp itK ntV _, mpR d.bo itK blV _, cGrp z.γ, Res.mod z.γ.px z.γ.P, Res.mod z.γ.pq z.γ.Q] (res1 rfl (.tmp rfl)) ⟨cx, by rw [he], rfl, by rw [he]; rfl⟩
   ·skip
    refine .seq ?_
    refine JC.draw (.one 0 (.one 1 (.one 2 (.one 3 (.one 4 (.one 5 (.one 6 (.one 7 (.one 8 (.one 9 (.one 10 (.one 11 (.one 12 (.one 13 (.one 14 (.one 15 (.one 16 .nil))))))))))))))))) (fun i => ([14] : List Nat).contains i) (fun i => ([14] : List Nat).contains i) (fun i => ([0, 2, 4, 5, 6, 8, 9, 10, 11, 13, 15, 16] : List Nat).contains i) mixed (by kernel_rfl) (by decide) (by kernel_rfl) ?_
    refine .uw rfl (.fieldAddr fa_42_4 rfl) (.w rfl (.ld one_38 rfl) (.uw rfl (.len Tryz.underlying38 rfl) (.w rfl (.ld one_30 rfl) (.uw rfl (.nilCheck rfl) (.uw rfl (.fieldAddr fa_100_1 rfl) (.uw rfl (.fieldAddr fa_24_0 rfl) ?_))))))
    refine .w rfl (.as (v' := it z.cfg.T) (.ld one_3 rfl) rfl) (.uw rfl (.asI (z.cfg.T + 1) (.bin rfl rfl (BinR.add_i zq3))) (.uw rfl (.bin rfl rfl BinR.neq_i) (.uw rfl (.move rfl) ?_)))
    refine JR.gsplit (g := 45) rfl (fun hg47 => ?_) (fun hg47 => ?_)
    ·have hg47' := hg47
     try simp only [decide_eq_true_eq, decide_eq_false_iff_not, Bool.not_eq_true', Bool.not_eq_false', ne_eq, Decidable.not_not, Bool.not_eq_true, Bool.and_eq_true, Bool.or_eq_true, BitVec.reduceToNat] at hg47'
     have hlt : ¬ (t.com.length : Int) = z.cfg.T + 1 := by simpa using hg47'
     have he : dealE z.γ z.cfg.T (z.S.getD k 0) d t.com = 31 := by rw [dealE, if_neg hc1, if_neg hc2, if_pos (.inl hlt)]
     obtain ⟨cx, -⟩ : ∃ cx : Value, True := ⟨d.cv, trivial⟩
     refine JR.gf (g := 46) rfl rfl rfl rfl hg47 (by decide) ?_
     refine JR.gf (g := 46) rfl rfl rfl rfl hg47 (by decide) ?_
     refine JR.gf (g := 46) rfl rfl rfl rfl hg47 (by decide) ?_
     refine JR.gfm (g := 46) rfl rfl rfl rfl hg47 (by decide) ?_ ?_
     ·exact ⟨Subs.sub zq0, .inl rfl⟩
     refine JR.u rfl rfl rfl (Yv.pick1 rfl hg47 rfl) (by decide) (.uw rfl (.assign rfl) ?_)
     refine .nil (.tn ?_)
     refine .k1 rfl rfl ?_
     refine .seq (.region ?_)
     refine .w (.move rfl) (.w (.nilCheck rfl) (.w (.fieldAddr fa_105_1 rfl) ?_))
     refine .s1 sz_4 ?_
     refine .nil (.tn (.seq (.region ?_)))
     refine .w (.assign rfl) ?_
     refine .nil (.tn (.ret (.block_ret (.then_ret ?_))))
     exact .dn [] [Res.cells d.p _ 105, Res.row _ _ 40 4 _, mpR d.ba itK blV _, mpR d.bt itK blV _, mpR d.bp itK ntV _, mpR d.bo itK blV _, cGrp z.γ, Res.mod z.γ.px z.γ.P, Res.mod z.γ.pq z.γ.Q] (res1 rfl (.tmp rfl)) ⟨cx, by rw [he], rfl, by rw [he]; rfl⟩
    ·have hg47' := hg47
     try simp only [decide_eq_true_eq, decide_eq_false_iff_not, Bool.not_eq_true', Bool.not_eq_false', ne_eq, Decidable.not_not, Bool.not_eq_true, Bool.and_eq_true, Bool.or_eq_true, BitVec.reduceToNat] at hg47'
     have hlt : (t.com.length : Int) = z.cfg.T + 1 := by simpa using hg47'
     refine JR.ugt (g := 46) rfl rfl rfl rfl rfl hg47 (.fieldAddr fa_42_4 rfl) (by decide) ?_
     refine JR.vgt (g := 46) rfl rfl rfl rfl rfl hg47 (.ld one_38 rfl) (by decide) ?_
     refine JR.ugt (g := 46) rfl rfl rfl rfl rfl hg47 (.makeFunc rfl rfl) (by decide) ?_
     refine JR.mgt (g := 46) rfl rfl rfl rfl hg47 (.c (f118D_spec z hγ b2 t.v t.com htc) body_118) (by decide) ?_
     rintro _ _ _ ⟨rfl, rfl, rfl⟩
     refine kp ?_
     refine JR.u rfl rfl rfl (Yv.pick0 rfl hg47 rfl) (by decide) (.uw rfl (.assign rfl) ?_)
     refine .nil (.tn ?_)
     refine .cn rfl (fun hc3 => ?_) (fun hc3 => ?_)
     ·have he : dealE z.γ z.cfg.T (z.S.getD k 0) d t.com = 31 := by rw [dealE, if_neg hc1, if_neg hc2, if_pos (.inr hc3)]
      obtain ⟨cx, -⟩ : ∃ cx : Value, True := ⟨d.cv, trivial⟩
      refine .seq (.region ?_)
      refine .w (.move rfl) (.w (.nilCheck rfl) (.w (.fieldAddr fa_105_1 rfl) ?_))
      refine .s1 sz_4 ?_
      refine .nil (.tn (.seq (.region ?_)))
      refine .w (.assign rfl) ?_
      refine .nil (.tn (.ret (.block_ret (.then_ret ?_))))
      exact .dn [] [Res.cells d.p _ 105, Res.row _ _ 40 4 _, mpR d.ba itK blV _, mpR d.bt itK blV _, mpR d.bp itK ntV _, mpR d.bo itK blV _, cGrp z.γ, Res.mod z.γ.px z.γ.P, Res.mod z.γ.pq z.γ.Q] (res1 rfl (.tmp rfl)) ⟨cx, by rw [he], rfl, by rw [he]; rfl⟩
     ·have he : dealE z.γ z.cfg.T (z.S.getD k 0) d t.com = 0 := by rw [dealE, if_neg hc1, if_neg hc2, if_neg (fun h => h.elim (fun h => h hlt) (fun h => by rw [hc3] at h; cases h))]
      refine .skip (.block_normal (.tn (.seq (.region ?_))))
      refine .w (.move rfl) (.w (.fieldAddr fa_42_4 rfl) (.w (.ld one_38 rfl) (.cb (f93_spec t.v t.com.length (bks natC t.com) (by omega) (FS_one natC t.com)) body_93 ?_)))
      rintro cx _ ⟨_, _, rfl⟩
      refine .ap ?_
      refine .w (.nilCheck rfl) (.w (.fieldAddr fa_105_0 rfl) ?_)
      refine .s1s sz_38 ?_
      refine .nil (.tn (.seq (.region ?_)))
      refine .w (.assign rfl) ?_
      refine .nil (.tn (.ret ?_))
      exact .dn [] [Res.cells d.p _ 105, Res.row _ _ 40 4 _, mpR d.ba itK blV _, mpR d.bt itK blV _, mpR d.bp itK ntV _, mpR d.bo itK blV _, cGrp z.γ, Res.mod z.γ.px z.γ.P, Res.mod z.γ.pq z.γ.Q] (res1 rfl (.tmp rfl)) ⟨cx, by rw [he], rfl, by rw [he]; rfl⟩
theorem f59_spec (z : ES) (hγ : GOk z.γ) (d : DL) (hd : DOk d) (k : Nat) (hps : z.ps[k]? = some d.p) (t : TX) (j : Nat) (hf : t.frm = (j : Int)) (hj : j < z.cnt.length) (hdl : t.dealer = (k : Int)) :
  Spec Tryz.prog 59 #[(ptr z.s 0), (.agg (txC t).toArray)] [Res.cells z.s (stC z) 100, Res.rd z.sv z.S.length 1 (z.S.map u64), Res.rd z.cv z.cnt.length 1 (z.cnt.map it), Res.rd z.ov z.own.length 1 (z.own.map it), Res.rd z.av z.ps.length 1 (z.ps.map fun p => ptr p 0), Res.rd t.v t.com.length 4 (bks natC t.com), Res.var 2 ((wd 1).map u64)] [Res.cells d.p (dlC d) 105, Res.row d.cv d.com.length 40 4 (bks natC d.com), mpR d.ba itK blV d.acks, mpR d.bt itK blV d.tried, mpR d.bp itK ntV d.pieces, mpR d.bo itK blV d.opened, cGrp z.γ, Res.mod z.γ.px z.γ.P, Res.mod z.γ.pq z.γ.Q]
   (fun r Γ' H' => r = it (ackE z.cnt d j) ∧ Γ' = [] ∧ H' = [Res.cells (ackN d (ackE z.cnt d j) j).p (dlC (ackN d (ackE z.cnt d j) j)) 105, Res.row (ackN d (ackE z.cnt d j) j).cv (ackN d (ackE z.cnt d j) j).com.length 40 4 (bks natC (ackN d (ackE z.cnt d j) j).com), mpR (ackN d (ackE z.cnt d j) j).ba itK blV (ackN d (ackE z.cnt d j) j).acks, mpR (ackN d (ackE z.cnt d j) j).bt itK blV (ackN d (ackE z.cnt d j) j).tried, mpR (ackN d (ackE z.cnt d j) j).bp itK ntV (ackN d (ackE z.cnt d j) j).pieces, mpR (ackN d (ackE z.cnt d j) j).bo itK blV (ackN d (ackE z.cnt d j) j).opened, cGrp z.γ, Res.mod z.γ.px z.γ.P, Res.mod z.γ.pq z.γ.Q]) := by
 refine Spec.of_args Tryz.func59 rfl Tryz.ntmps59 (by simp) fun w => ?_
 have hkl := ps_lt hps
 refine JC.know (φ := z.ps.length ≤ 9223372036854775807) (fun w hs => by obtain ⟨_, _, _, _, _, _, h⟩ := hs.rdForm (.tail _ (.tail _ (.tail _ (.tail _ (.head _))))); unfold maxLen at h; omega) fun hl4 => ?_
 refine JC.know (φ := z.cnt.length ≤ 9223372036854775807) (fun w hs => by obtain ⟨_, _, _, _, _, _, h⟩ := hs.rdForm (.tail _ (.tail _ (.head _))); unfold maxLen at h; omega) fun hl2 => ?_
 refine .seq (.region ?_)
 refine .bx fun b3 => ?_
 refine .w (.assign rfl) ?_
 refine .nil (.tn (.seq (.block (.seq ?_))))
 refine JC.draw (.one 0 (.one 1 (.one 2 (.one 3 (.one 4 (.one 5 (.one 6 (.one 7 (.one 8 (.one 9 (.one 10 (.one 11 (.one 12 (.one 13 (.one 14 (.one 15 (.one 16 .nil))))))))))))))))) (fun i => ([] : List Nat).contains i) (fun i => ([3] : List Nat).contains i) (fun i => ([0, 1, 4, 5, 6, 7, 8, 10, 12, 14, 15, 16] : List Nat).contains i) mixed (by kernel_rfl) (by decide) (by kernel_rfl) ?_
 refine .uw rfl (.move rfl) (.uw rfl (.fieldAddr fa_42_2 rfl) (.w rfl (.as (v' := it (k : Int)) (.ld one_3 rfl) (congrArg it hdl)) ?_))
 refine .mw rfl (.c (f65_spec z d k hps) body_65) ?_
 rintro _ _ _ ⟨rfl, rfl, rfl⟩
 refine kp ?_
 refine .uw rfl (.not rfl) (.uw rfl (.move rfl) ?_)
 refine JR.gsplit (g := 10) rfl (fun hg9 => ?_) (fun hg9 => ?_)
 ·have hg9' := hg9
  try simp only [decide_eq_true_eq, decide_eq_false_iff_not, Bool.not_eq_true', Bool.not_eq_false', ne_eq, Decidable.not_not, Bool.not_eq_true, Bool.and_eq_true, Bool.or_eq_true, BitVec.reduceToNat] at hg9'
  have he : ackE z.cnt d j = 51 := if_pos (.inl (by simpa using hg9'))
  refine JR.gf (g := 11) rfl rfl rfl rfl hg9 (by decide) ?_
  refine JR.gf (g := 11) rfl rfl rfl rfl hg9 (by decide) ?_
  refine JR.gf (g := 11) rfl rfl rfl rfl hg9 (by decide) ?_
  refine JR.gf (g := 11) rfl rfl rfl rfl hg9 (by decide) ?_
  refine JR.gf (g := 11) rfl rfl rfl rfl hg9 (by decide) ?_
  refine JR.gf (g := 11) rfl rfl rfl rfl hg9 (by decide) ?_
  refine JR.gf (g := 11) rfl rfl rfl rfl hg9 (by decide) ?_
  refine JR.gf (g := 11) rfl rfl rfl rfl hg9 (by decide) ?_
  refine JR.gf (g := 11) rfl rfl rfl rfl hg9 (by decide) ?_
  refine JR.u rfl rfl rfl (Yv.pick1 rfl hg9 rfl) (by decide) (.uw rfl (.assign rfl) ?_)
  refine .nil (.tn ?_)
  refine .k1 rfl rfl ?_
  refine .seq (.region ?_)
  refine .w (.assign rfl) ?_
  refine .nil (.tn (.ret (.block_ret (.then_ret ?_))))
  exact .dn [] [Res.cells d.p _ 105, Res.row _ _ 40 4 _, mpR d.ba itK blV _, mpR d.bt itK blV _, mpR d.bp itK ntV _, mpR d.bo itK blV _, cGrp z.γ, Res.mod z.γ.px z.γ.P, Res.mod z.γ.pq z.γ.Q] (res1 rfl (.tmp rfl)) ⟨by rw [he], rfl, by rw [he]; rfl⟩
 ·have hg9' := hg9
  try simp only [decide_eq_true_eq, decide_eq_false_iff_not, Bool.not_eq_true', Bool.not_eq_false', ne_eq, Decidable.not_not, Bool.not_eq_true, Bool.and_eq_true, Bool.or_eq_true, BitVec.reduceToNat] at hg9'
  have hdd : 0 < d.com.length := by simpa using hg9'
  refine JR.ugt (g := 11) rfl rfl rfl rfl rfl hg9 (.move rfl) (by decide) ?_
  refine JR.ugt (g := 11) rfl rfl rfl rfl rfl hg9 (.nilCheck rfl) (by decide) ?_
  refine JR.ugt (g := 11) rfl rfl rfl rfl rfl hg9 (.fieldAddr fa_100_5 rfl) (by decide) ?_
  refine JR.vgt (g := 11) rfl rfl rfl rfl rfl hg9 (.ld one_37 rfl) (by decide) ?_
  refine JR.ugt (g := 11) rfl rfl rfl rfl rfl hg9 (.fieldAddr fa_42_1 rfl) (by decide) ?_
  refine JR.vgt (g := 11) rfl rfl rfl rfl rfl hg9 (.as (v' := it (j : Int)) (.ld one_3 rfl) (congrArg it hf)) (by decide) ?_
  refine JR.ugt (g := 11) rfl rfl rfl rfl rfl hg9 (.ix1 Tryz.underlying37 sz_3 rfl rfl) (by decide) ?_
  refine JR.vgt (g := 11) rfl rfl rfl rfl rfl hg9 (.as (v' := it (z.cnt.getD j 0)) (.ld one_3 rfl (hj := by exact gm (d := 0) (by omega))) rfl) (by decide) ?_
  refine JR.ugt (g := 11) rfl rfl rfl rfl rfl hg9 (.bin rfl rfl BinR.eql_i) (by decide) ?_
  refine JR.u rfl rfl rfl (Yv.pick0 rfl hg9 rfl) (by decide) (.uw rfl (.assign rfl) ?_)
  refine .nil (.tn ?_)
  refine .cn rfl (fun hc1 => ?_) (fun hc1 => ?_)
  ·have he : ackE z.cnt d j = 51 := if_pos (.inr hc1)
   refine .seq (.region ?_)
   refine .w (.assign rfl) ?_
   refine .nil (.tn (.ret (.block_ret (.then_ret ?_))))
   exact .dn [] [Res.cells d.p _ 105, Res.row _ _ 40 4 _, mpR d.ba itK blV _, mpR d.bt itK blV _, mpR d.bp itK ntV _, mpR d.bo itK blV _, cGrp z.γ, Res.mod z.γ.px z.γ.P, Res.mod z.γ.pq z.γ.Q] (res1 rfl (.tmp rfl)) ⟨by rw [he], rfl, by rw [he]; rfl⟩
  ·have hn1 : ¬ (¬ 0 < d.com.length ∨ z.cnt.getD j 0 = 0) := fun h => h.elim (fun h => h hdd) hc1
   refine .seq ?_
   refine JC.draw (.one 0 (.one 1 (.one 2 (.one 3 (.one 4 (.one 5 (.one 6 (.one 7 (.one 8 (.one 9 (.one 10 (.one 11 (.one 12 (.one 13 (.one 14 .nil))))))))))))))) (fun i => ([] : List Nat).contains i) (fun i => ([] : List Nat).contains i) (fun i => ([0, 1, 2, 4, 6, 8, 9, 11, 14] : List Nat).contains i) mixed (by kernel_rfl) (by decide) (by kernel_rfl) ?_
   refine .uw rfl (.move rfl) (.uw rfl (.nilCheck rfl) (.uw rfl (.fieldAddr fa_100_7 rfl) (.w rfl (.ld one_98 rfl) (.uw rfl (.fieldAddr fa_42_2 rfl) (.w rfl (.as (v' := it (k : Int)) (.ld one_3 rfl) (congrArg it hdl)) (.uw rfl (.ix1 Tryz.underlying98 sz_101 rfl rfl) ?_))))))
   refine .w rfl (.ld one_101 rfl (hj := by exact ps_at hps)) (.uw rfl (.nilCheck rfl) (.uw rfl (.fieldAddr fa_105_3 rfl) (.w rfl (.ld one_102 rfl) (.uw rfl (.fieldAddr fa_42_1 rfl) (.w rfl (.as (v' := it (j : Int)) (.ld one_3 rfl) (congrArg it hf)) (.w rfl (.as (v' := .bool (d.acked (j : Int))) (.lk (j : Int) Tryz.underlying102 mkey_102 zf_4) (bl_get _ _)) ?_))))))
   refine .uw rfl (.assign rfl) ?_
   refine .nil (.tn ?_)
   refine .cn rfl (fun hc2 => ?_) (fun hc2 => ?_)
   ·have he : ackE z.cnt d j = 13 := by rw [ackE, if_neg hn1, if_pos hc2]
    refine .seq (.region ?_)
    refine .w (.assign rfl) ?_
    refine .nil (.tn (.ret (.block_ret (.then_ret ?_))))
    exact .dn [] [Res.cells d.p _ 105, Res.row _ _ 40 4 _, mpR d.ba itK blV _, mpR d.bt itK blV _, mpR d.bp itK ntV _, mpR d.bo itK blV _, cGrp z.γ, Res.mod z.γ.px z.γ.P, Res.mod z.γ.pq z.γ.Q] (res1 rfl (.tmp rfl)) ⟨by rw [he], rfl, by rw [he]; rfl⟩
   ·have he : ackE z.cnt d j = 0 := by rw [ackE, if_neg hn1, if_neg (by rw [hc2]; decide)]
    refine .skip (.block_normal (.tn (.seq ?_)))
    refine JC.draw (.one 0 (.one 1 (.one 2 (.one 3 (.one 4 (.one 5 (.one 6 (.one 7 (.one 8 (.one 9 (.one 10 (.one 11 (.one 12 (.one 13 .nil)))))))))))))) (fun i => ([13] : List Nat).contains i) (fun i => ([13] : List Nat).contains i) (fun i => ([0, 1, 2, 4, 6, 8, 9, 11] : List Nat).contains i) mixed (by kernel_rfl) (by decide) (by kernel_rfl) ?_
    refine .uw rfl (.move rfl) (.uw rfl (.nilCheck rfl) (.uw rfl (.fieldAddr fa_100_7 rfl) (.w rfl (.ld one_98 rfl) (.uw rfl (.fieldAddr fa_42_2 rfl) (.w rfl (.as (v' := it (k : Int)) (.ld one_3 rfl) (congrArg it hdl)) (.uw rfl (.ix1 Tryz.underlying98 sz_101 rfl rfl) ?_))))))
    refine .w rfl (.ld one_101 rfl (hj := by exact ps_at hps)) (.uw rfl (.nilCheck rfl) (.uw rfl (.fieldAddr fa_105_3 rfl) (.w rfl (.ld one_102 rfl) (.uw rfl (.fieldAddr fa_42_1 rfl) (.w rfl (.as (v' := it (j : Int)) (.ld one_3 rfl) (congrArg it hf)) ?_)))))
    refine .mw0 rfl (.mu (j : Int) true Tryz.underlying102 mkey_102) ?_
    rintro _ _ _ ⟨rfl, rfl⟩
    refine kp ?_
    refine .nil (.tn (.seq (.region ?_)))
    refine .w (.assign rfl) ?_
    refine .nil (.tn (.ret ?_))
    exact .dn [] [Res.cells d.p _ 105, Res.row _ _ 40 4 _, mpR d.ba itK blV _, mpR d.bt itK blV _, mpR d.bp itK ntV _, mpR d.bo itK blV _, cGrp z.γ, Res.mod z.γ.px z.γ.P, Res.mod z.γ.pq z.γ.Q] (res1 rfl (.tmp rfl)) ⟨by rw [he], rfl, by rw [he]; rfl⟩

theorem f60_spec (z : ES) (hγ : GOk z.γ) (d : DL) (hd : DOk d) (k : Nat) (hps : z.ps[k]? = some d.p) (t : TX) (hf : t.frm = (k : Int)) (htv : t.val < 115792089237316195423570985008687907853269984665640564039457584007913129639936) :
  Spec Tryz.prog 60 #[(ptr z.s 0), (.agg (txC t).toArray)] [Res.cells z.s (stC z) 100, Res.rd z.sv z.S.length 1 (z.S.map u64), Res.rd z.cv z.cnt.length 1 (z.cnt.map it), Res.rd z.ov z.own.length 1 (z.own.map it), Res.rd z.av z.ps.length 1 (z.ps.map fun p => ptr p 0), Res.rd t.v t.com.length 4 (bks natC t.com), Res.var 2 ((wd 1).map u64)] [Res.cells d.p (dlC d) 105, Res.row d.cv d.com.length 40 4 (bks natC d.com), mpR d.ba itK blV d.acks, mpR d.bt itK blV d.tried, mpR d.bp itK ntV d.pieces, mpR d.bo itK blV d.opened, cGrp z.γ, Res.mod z.γ.px z.γ.P, Res.mod z.γ.pq z.γ.Q]
   (fun r Γ' H' => r = it (openE z.γ d t.slot t.val) ∧ Γ' = [] ∧ H' = [Res.cells (openN d (openE z.γ d t.slot t.val) t.slot (⟨t.val, htv⟩ : N256)).p (dlC (openN d (openE z.γ d t.slot t.val) t.slot (⟨t.val, htv⟩ : N256))) 105, Res.row (openN d (openE z.γ d t.slot t.val) t.slot (⟨t.val, htv⟩ : N256)).cv (openN d (openE z.γ d t.slot t.val) t.slot (⟨t.val, htv⟩ : N256)).com.length 40 4 (bks natC (openN d (openE z.γ d t.slot t.val) t.slot (⟨t.val, htv⟩ : N256)).com), mpR (openN d (openE z.γ d t.slot t.val) t.slot (⟨t.val, htv⟩ : N256)).ba itK blV (openN d (openE z.γ d t.slot t.val) t.slot (⟨t.val, htv⟩ : N256)).acks, mpR (openN d (openE z.γ d t.slot t.val) t.slot (⟨t.val, htv⟩ : N256)).bt itK blV (openN d (openE z.γ d t.slot t.val) t.slot (⟨t.val, htv⟩ : N256)).tried, mpR (openN d (openE z.γ d t.slot t.val) t.slot (⟨t.val, htv⟩ : N256)).bp itK ntV (openN d (openE z.γ d t.slot t.val) t.slot (⟨t.val, htv⟩ : N256)).pieces, mpR (openN d (openE z.γ d t.slot t.val) t.slot (⟨t.val, htv⟩ : N256)).bo itK blV (openN d (openE z.γ d t.slot t.val) t.slot (⟨t.val, htv⟩ : N256)).opened, cGrp z.γ, Res.mod z.γ.px z.γ.P, Res.mod z.γ.pq z.γ.Q]) := by
 refine Spec.of_args Tryz.func60 rfl Tryz.ntmps60 (by simp) fun w => ?_
 have hkl := ps_lt hps
 refine JC.know (φ := z.ps.length ≤ 9223372036854775807) (fun w hs => by obtain ⟨_, _, _, _, _, _, h⟩ := hs.rdForm (.tail _ (.tail _ (.tail _ (.tail _ (.head _))))); unfold maxLen at h; omega) fun hl4 => ?_
 refine .seq (.region ?_)
 refine .bx fun b3 => ?_
 refine JO.frz (r := Res.cells b3 _ _) zq12 ?_
 refine .w (.assign rfl) ?_
 refine .nil (.tn (.seq ?_))
 refine JC.draw (.one 0 (.one 1 (.one 2 (.one 3 (.one 4 (.one 5 (.one 6 (.one 7 (.one 8 .nil))))))))) (fun i => ([] : List Nat).contains i) (fun i => ([] : List Nat).contains i) (fun i => ([0, 1, 2, 4, 6, 8] : List Nat).contains i) mixed (by kernel_rfl) (by decide) (by kernel_rfl) ?_
 refine .uw rfl (.move rfl) (.uw rfl (.nilCheck rfl) (.uw rfl (.fieldAddr fa_100_7 rfl) (.w rfl (.ld one_98 rfl) (.uw rfl (.fieldAddr fa_42_1 rfl) (.w rfl (.as (v' := it (k : Int)) (.ld one_3 rfl) (congrArg it hf)) (.uw rfl (.ix1 Tryz.underlying98 sz_101 rfl rfl) ?_))))))
 refine .w rfl (.ld one_101 rfl (hj := by exact ps_at hps)) (.uw rfl (.assign rfl) ?_)
 refine .nil (.tn (.seq (.block (.seq (.region ?_)))))
 refine .w (.move rfl) (.w (.fieldAddr fa_42_1 rfl) (.w (.as (v' := it (k : Int)) (.ld one_3 rfl) (congrArg it hf)) (.c (f65_spec z d k hps) body_65 ?_)))
 refine .w (.not rfl) (.w (.assign rfl) ?_)
 refine .nil (.tn ?_)
 refine .cn rfl (fun hc1 => ?_) (fun hc1 => ?_)
 ·have he : openE z.γ d t.slot t.val = 51 := if_pos (by simpa using hc1)
  refine .seq (.region ?_)
  refine .w (.assign rfl) ?_
  refine .nil (.tn (.ret (.block_ret (.then_ret ?_))))
  exact .dn [] [Res.cells d.p _ 105, Res.row _ _ 40 4 _, mpR d.ba itK blV _, mpR d.bt itK blV _, mpR d.bp itK ntV _, mpR d.bo itK blV _, cGrp z.γ, Res.mod z.γ.px z.γ.P, Res.mod z.γ.pq z.γ.Q] (res1 rfl (.tmp rfl)) ⟨by rw [he], rfl, by rw [he]; rfl⟩
 ·have hdd : ¬ ¬ 0 < d.com.length := fun h => h hc1
  refine .seq ?_
  refine JC.draw (.one 0 (.one 1 (.one 2 (.one 3 (.one 4 (.one 5 (.one 6 (.one 7 .nil)))))))) (fun i => ([] : List Nat).contains i) (fun i => ([] : List Nat).contains i) (fun i => ([0, 1, 2, 4, 7] : List Nat).contains i) mixed (by kernel_rfl) (by decide) (by kernel_rfl) ?_
  refine .uw rfl (.move rfl) (.uw rfl (.nilCheck rfl) (.uw rfl (.fieldAddr fa_105_4 rfl) (.w rfl (.ld one_102 rfl) (.uw rfl (.fieldAddr fa_42_3 rfl) (.w rfl (.as (v' := it t.slot) (.ld one_3 rfl) rfl) (.w rfl (.as (v' := .bool (d.tryd t.slot)) (.lk t.slot Tryz.underlying102 mkey_102 zf_4) (bl_get _ _)) ?_))))))
  refine .uw rfl (.assign rfl) ?_
  refine .nil (.tn ?_)
  refine .cn rfl (fun hc2 => ?_) (fun hc2 => ?_)
  ·have he : openE z.γ d t.slot t.val = 13 := by rw [openE, if_neg hdd, if_pos hc2]
   refine .seq (.region ?_)
   refine .w (.assign rfl) ?_
   refine .nil (.tn (.ret (.block_ret (.then_ret ?_))))
   exact .dn [] [Res.cells d.p _ 105, Res.row _ _ 40 4 _, mpR d.ba itK blV _, mpR d.bt itK blV _, mpR d.bp itK ntV _, mpR d.bo itK blV _, cGrp z.γ, Res.mod z.γ.px z.γ.P, Res.mod z.γ.pq z.γ.Q] (res1 rfl (.tmp rfl)) ⟨by rw [he], rfl, by rw [he]; rfl⟩
  ·have ht2 : ¬ d.tryd t.slot = true := by rw [hc2]; decide
   refine .skip (.block_normal (.tn (.seq ?_)))
   refine JC.draw (.one 0 (.one 1 (.one 2 (.one 3 (.one 4 (.one 5 (.one 6 .nil))))))) (fun i => ([6] : List Nat).contains i) (fun i => ([6] : List Nat).contains i) (fun i => ([0, 1, 2, 4] : List Nat).contains i) mixed (by kernel_rfl) (by decide) (by kernel_rfl) ?_
   refine .uw rfl (.move rfl) (.uw rfl (.nilCheck rfl) (.uw rfl (.fieldAddr fa_105_4 rfl) (.w rfl (.ld one_102 rfl) (.uw rfl (.fieldAddr fa_42_3 rfl) (.w rfl (.ld one_3 rfl) ?_)))))
   refine .mw0 rfl (.mu t.slot true Tryz.underlying102 mkey_102) ?_
   rintro _ _ _ ⟨rfl, rfl⟩
   refine kp ?_
   refine .nil (.tn (.seq (.seq (.region ?_))))
   refine .w (.move rfl) (.w (.fieldAddr fa_42_1 rfl) (.w (.as (v' := it (k : Int)) (.ld one_3 rfl) (congrArg it hf)) (.w (.fieldAddr fa_42_3 rfl) (.w (.ld one_3 rfl) (.w (.fieldAddr fa_42_5 rfl) (.w (.as (v' := .agg ((wd t.val).map u64).toArray) (.lda agg_40 rfl) (by rfl)) (.c (f121_spec z hγ d hd k hps t.slot t.val htv) body_121 ?_)))))))
   refine .w (.not rfl) ?_
   refine .nil (.tn ?_)
   refine .cn rfl (fun hc3 => ?_) (fun hc3 => ?_)
   ·have he : openE z.γ d t.slot t.val = 40 := by rw [openE, if_neg hdd, if_neg ht2, if_pos (by simpa using hc3)]
    refine .seq (.region ?_)
    refine .w (.move rfl) (.w (.nilCheck rfl) (.w (.fieldAddr fa_105_2 rfl) ?_))
    refine .s1 sz_4 ?_
    refine .nil (.tn (.seq (.region ?_)))
    refine .w (.assign rfl) ?_
    refine .nil (.tn (.ret (.then_ret ?_)))
    exact .dn [] [Res.cells d.p _ 105, Res.row _ _ 40 4 _, mpR d.ba itK blV _, mpR d.bt itK blV _, mpR d.bp itK ntV _, mpR d.bo itK blV _, cGrp z.γ, Res.mod z.γ.px z.γ.P, Res.mod z.γ.pq z.γ.Q] (res1 rfl (.tmp rfl)) ⟨by rw [he], rfl, by rw [he]; rfl⟩
   ·have he : openE z.γ d t.slot t.val = 0 := by rw [openE, if_neg hdd, if_neg ht2, if_neg (by simpa using hc3)]
    refine .skip (.tn (.seq ?_))
    refine JC.draw (.one 0 (.one 1 (.one 2 (.one 3 (.one 4 (.one 5 (.one 6 (.one 7 (.one 8 (.one 9 (.one 10 (.one 11 (.one 12 (.one 13 (.one 14 (.one 15 (.one 16 (.one 17 (.one 18 (.one 19 .nil)))))))))))))))))))) (fun i => ([14, 16, 17, 19] : List Nat).contains i) (fun i => ([14, 16, 17, 19] : List Nat).contains i) (fun i => ([0, 1, 2, 4, 6, 7, 8, 10, 11, 12, 13, 15, 18] : List Nat).contains i) mixed (by kernel_rfl) (by decide) (by kernel_rfl) ?_
    refine .uw rfl (.move rfl) (.uw rfl (.nilCheck rfl) (.uw rfl (.fieldAddr fa_105_6 rfl) (.w rfl (.ld one_102 rfl) (.uw rfl (.fieldAddr fa_42_3 rfl) (.w rfl (.ld one_3 rfl) (.uw rfl (.move rfl) ?_))))))
    refine .uw rfl (.nilCheck rfl) (.uw rfl (.fieldAddr fa_105_5 rfl) (.w rfl (.ld one_103 rfl) (.uw rfl (.fieldAddr fa_42_3 rfl) (.uw rfl (.ld one_3 rfl) (.uw rfl (.fieldAddr fa_42_5 rfl) (.uw rfl (.as (v' := .agg ((wd t.val).map u64).toArray) (.lda agg_40 rfl) (by rfl)) ?_))))))
    refine .mw rfl (.me t.slot false Tryz.underlying102 mkey_102 zf_4) ?_
    rintro v60 _ _ ⟨⟨u63, c63, hm63, rfl⟩, rfl, rfl⟩
    refine kp ?_
    refine .uw rfl (.extract rfl rfl) ?_
    refine .mw0 rfl (.es t.slot u63 c63 true (MM.ok_ent hd.opened _ _) hm63) ?_
    rintro _ _ _ ⟨rfl, rfl⟩
    refine kp ?_
    refine .mw rfl (.me t.slot (⟨0, by decide⟩ : N256) Tryz.underlying103 mkey_103 zf_40) ?_
    rintro v62 _ _ ⟨⟨u66, c66, hm66, rfl⟩, rfl, rfl⟩
    refine kp ?_
    refine .uw rfl (.extract rfl rfl) ?_
    refine .mw0 rfl (.es t.slot u66 c66 (⟨t.val, htv⟩ : N256) (MM.ok_ent hd.pieces _ _) hm66) ?_
    rintro _ _ _ ⟨rfl, rfl⟩
    refine kp ?_
    rw [MM.ent_put, MM.ent_put]
    refine .nil (.tn (.seq (.region ?_)))
    refine .w (.assign rfl) ?_
    refine .nil (.tn (.ret ?_))
    exact .dn [] [Res.cells d.p _ 105, Res.row _ _ 40 4 _, mpR d.ba itK blV _, mpR d.bt itK blV _, mpR d.bp itK ntV _, mpR d.bo itK blV _, cGrp z.γ, Res.mod z.γ.px z.γ.P, Res.mod z.γ.pq z.γ.Q] (res1 rfl (.tmp rfl)) ⟨by rw [he], rfl, by rw [he]; rfl⟩

theorem f61_spec (z : ES) (hγ : GOk z.γ) (d : DL) (hd : DOk d) (k : Nat) (hps : z.ps[k]? = some d.p) (t : TX) (hf : t.frm = (k : Int)) (htv : t.val < 115792089237316195423570985008687907853269984665640564039457584007913129639936) :
  Spec Tryz.prog 61 #[(ptr z.s 0), (.agg (txC t).toArray)] [Res.cells z.s (stC z) 100, Res.rd z.sv z.S.length 1 (z.S.map u64), Res.rd z.cv z.cnt.length 1 (z.cnt.map it), Res.rd z.ov z.own.length 1 (z.own.map it), Res.rd z.av z.ps.length 1 (z.ps.map fun p => ptr p 0), Res.rd t.v t.com.length 4 (bks natC t.com), Res.var 2 ((wd 1).map u64)] [Res.cells d.p (dlC d) 105, Res.row d.cv d.com.length 40 4 (bks natC d.com), mpR d.ba itK blV d.acks, mpR d.bt itK blV d.tried, mpR d.bp itK ntV d.pieces, mpR d.bo itK blV d.opened, cGrp z.γ, Res.mod z.γ.px z.γ.P, Res.mod z.γ.pq z.γ.Q]
   (fun r Γ' H' => r = it (revE z.γ z.own d t.val) ∧ Γ' = [] ∧ H' = [Res.cells (revN d (revE z.γ z.own d t.val) t.val).p (dlC (revN d (revE z.γ z.own d t.val) t.val)) 105, Res.row (revN d (revE z.γ z.own d t.val) t.val).cv (revN d (revE z.γ z.own d t.val) t.val).com.length 40 4 (bks natC (revN d (revE z.γ z.own d t.val) t.val).com), mpR (revN d (revE z.γ z.own d t.val) t.val).ba itK blV (revN d (revE z.γ z.own d t.val) t.val).acks, mpR (revN d (revE z.γ z.own d t.val) t.val).bt itK blV (revN d (revE z.γ z.own d t.val) t.val).tried, mpR (revN d (revE z.γ z.own d t.val) t.val).bp itK ntV (revN d (revE z.γ z.own d t.val) t.val).pieces, mpR (revN d (revE z.γ z.own d t.val) t.val).bo itK blV (revN d (revE z.γ z.own d t.val) t.val).opened, cGrp z.γ, Res.mod z.γ.px z.γ.P, Res.mod z.γ.pq z.γ.Q]) := by
 refine Spec.of_args Tryz.func61 rfl Tryz.ntmps61 (by simp) fun w => ?_
 have hkl := ps_lt hps
 refine JC.know (φ := z.ps.length ≤ 9223372036854775807) (fun w hs => by obtain ⟨_, _, _, _, _, _, h⟩ := hs.rdForm (.tail _ (.tail _ (.tail _ (.tail _ (.head _))))); unfold maxLen at h; omega) fun hl4 => ?_
 refine .seq (.region ?_)
 refine .bx fun b3 => ?_
 refine .w (.assign rfl) ?_
 refine .nil (.tn (.seq ?_))
 refine JC.draw (.one 0 (.one 1 (.one 2 (.one 3 (.one 4 (.one 5 (.one 6 (.one 7 (.one 8 .nil))))))))) (fun i => ([] : List Nat).contains i) (fun i => ([] : List Nat).contains i) (fun i => ([0, 1, 2, 4, 6, 8] : List Nat).contains i) mixed (by kernel_rfl) (by decide) (by kernel_rfl) ?_
 refine .uw rfl (.move rfl) (.uw rfl (.nilCheck rfl) (.uw rfl (.fieldAddr fa_100_7 rfl) (.w rfl (.ld one_98 rfl) (.uw rfl (.fieldAddr fa_42_1 rfl) (.w rfl (.as (v' := it (k : Int)) (.ld one_3 rfl) (congrArg it hf)) (.uw rfl (.ix1 Tryz.underlying98 sz_101 rfl rfl) ?_))))))
 refine .w rfl (.ld one_101 rfl (hj := by exact ps_at hps)) (.uw rfl (.assign rfl) ?_)
 refine .nil (.tn (.seq (.block (.seq (.region ?_)))))
 refine .w (.move rfl) (.w (.fieldAddr fa_42_1 rfl) (.w (.as (v' := it (k : Int)) (.ld one_3 rfl) (congrArg it hf)) (.c (f66_spec z d k hps) body_66 ?_)))
 refine .w (.not rfl) (.w (.assign rfl) ?_)
 refine .nil (.tn ?_)
 refine .cn rfl (fun hc1 => ?_) (fun hc1 => ?_)
 ·have he : revE z.γ z.own d t.val = 51 := if_pos (by simpa using hc1)
  refine .seq (.region ?_)
  refine .w (.assign rfl) ?_
  refine .nil (.tn (.ret (.block_ret (.then_ret ?_))))
  exact .dn [] [Res.cells d.p _ 105, Res.row _ _ 40 4 _, mpR d.ba itK blV _, mpR d.bt itK blV _, mpR d.bp itK ntV _, mpR d.bo itK blV _, cGrp z.γ, Res.mod z.γ.px z.γ.P, Res.mod z.γ.pq z.γ.Q] (res1 rfl (.tmp rfl)) ⟨by rw [he], rfl, by rw [he]; rfl⟩
 ·have hq : ¬ ¬ QualP z.own d := by simpa using hc1
  refine .seq (.region ?_)
  refine .w (.move rfl) (.w (.nilCheck rfl) (.w (.fieldAddr fa_105_8 rfl) (.w (.ld one_4 rfl) (.w (.assign rfl) ?_))))
  refine .nil (.tn ?_)
  refine .cn rfl (fun hc2 => ?_) (fun hc2 => ?_)
  ·have he : revE z.γ z.own d t.val = 13 := by rw [revE, if_neg hq, if_pos hc2]
   refine .seq (.region ?_)
   refine .w (.assign rfl) ?_
   refine .nil (.tn (.ret (.block_ret (.then_ret ?_))))
   exact .dn [] [Res.cells d.p _ 105, Res.row _ _ 40 4 _, mpR d.ba itK blV _, mpR d.bt itK blV _, mpR d.bp itK ntV _, mpR d.bo itK blV _, cGrp z.γ, Res.mod z.γ.px z.γ.P, Res.mod z.γ.pq z.γ.Q] (res1 rfl (.tmp rfl)) ⟨by rw [he], rfl, by rw [he]; rfl⟩
  ·have hr2 : ¬ d.rev = true := by rw [hc2]; decide
   refine .seq ?_
   refine JC.draw (.one 0 (.one 1 (.one 2 (.one 3 (.one 4 (.one 5 (.one 6 (.one 7 (.one 8 (.one 9 (.one 10 (.one 11 (.one 12 .nil))))))))))))) (fun i => ([10] : List Nat).contains i) (fun i => ([10] : List Nat).contains i) (fun i => ([0, 1, 2, 4, 5, 6, 8, 11, 12] : List Nat).contains i) mixed (by kernel_rfl) (by decide) (by kernel_rfl) ?_
   refine .uw rfl (.move rfl) (.uw rfl (.nilCheck rfl) (.uw rfl (.fieldAddr fa_100_0 rfl) (.w rfl (.ld one_28 rfl) (.uw rfl (.move rfl) (.uw rfl (.nilCheck rfl) (.uw rfl (.fieldAddr fa_105_0 rfl) ?_))))))
   refine .w rfl (.ld one_38 rfl) (.uw rfl (.fieldAddr fa_42_5 rfl) (.w rfl (.as (v' := .agg ((wd t.val).map u64).toArray) (.lda agg_40 rfl) (by rfl)) ?_))
   refine .mw rfl (.c (f122_spec z.γ hγ d.cv d.com hd.com t.val htv) body_122) ?_
   rintro _ _ _ ⟨rfl, rfl, rfl⟩
   refine kp ?_
   refine .uw rfl (.not rfl) (.uw rfl (.assign rfl) ?_)
   refine .nil (.tn ?_)
   refine .cn rfl (fun hc3 => ?_) (fun hc3 => ?_)
   ·have he : revE z.γ z.own d t.val = 40 := by rw [revE, if_neg hq, if_neg hr2, if_pos (by simpa using hc3)]
    refine .seq (.region ?_)
    refine .w (.assign rfl) ?_
    refine .nil (.tn (.ret (.block_ret (.then_ret ?_))))
    exact .dn [] [Res.cells d.p _ 105, Res.row _ _ 40 4 _, mpR d.ba itK blV _, mpR d.bt itK blV _, mpR d.bp itK ntV _, mpR d.bo itK blV _, cGrp z.γ, Res.mod z.γ.px z.γ.P, Res.mod z.γ.pq z.γ.Q] (res1 rfl (.tmp rfl)) ⟨by rw [he], rfl, by rw [he]; rfl⟩
   ·have he : revE z.γ z.own d t.val = 0 := by rw [revE, if_neg hq, if_neg hr2, if_neg (by simpa using hc3)]
    refine .skip (.block_normal (.tn (.seq (.region ?_))))
    refine .w (.move rfl) (.w (.move rfl) (.w (.fieldAddr fa_42_5 rfl) (.w (.as (v' := .agg ((wd t.val).map u64).toArray) (.lda agg_40 rfl) (by rfl)) (.w (.nilCheck rfl) (.w (.fieldAddr fa_105_7 rfl) (.so sz_40 ?_))))))
    refine .w (.nilCheck rfl) (.w (.fieldAddr fa_105_8 rfl) ?_)
    refine .s1 sz_4 ?_
    refine .nil (.tn (.seq (.region ?_)))
    refine .w (.assign rfl) ?_
    refine .nil (.tn (.ret ?_))
    exact .dn [] [Res.cells d.p _ 105, Res.row _ _ 40 4 _, mpR d.ba itK blV _, mpR d.bt itK blV _, mpR d.bp itK ntV _, mpR d.bo itK blV _, cGrp z.γ, Res.mod z.γ.px z.γ.P, Res.mod z.γ.pq z.γ.Q] (res1 rfl (.tmp rfl)) ⟨by rw [he], rfl, by rw [he]; rfl⟩

theorem f62_spec (z : ES) (hγ : GOk z.γ) (d : DL) (hd : DOk d) (k : Nat) (hps : z.ps[k]? = some d.p) (t : TX) (hdl : t.dealer = (k : Int)) (s : Nat) (hs : t.slot = (s : Int)) (hso : s < z.own.length) (htv : t.val < 115792089237316195423570985008687907853269984665640564039457584007913129639936) :
  Spec Tryz.prog 62 #[(ptr z.s 0), (.agg (txC t).toArray)] [Res.cells z.s (stC z) 100, Res.rd z.sv z.S.length 1 (z.S.map u64), Res.rd z.cv z.cnt.length 1 (z.cnt.map it), Res.rd z.ov z.own.length 1 (z.own.map it), Res.rd z.av z.ps.length 1 (z.ps.map fun p => ptr p 0), Res.rd t.v t.com.length 4 (bks natC t.com), Res.var 2 ((wd 1).map u64)] [Res.cells d.p (dlC d) 105, Res.row d.cv d.com.length 40 4 (bks natC d.com), mpR d.ba itK blV d.acks, mpR d.bt itK blV d.tried, mpR d.bp itK ntV d.pieces, mpR d.bo itK blV d.opened, cGrp z.γ, Res.mod z.γ.px z.γ.P, Res.mod z.γ.pq z.γ.Q]
   (fun r Γ' H' => r = it (postE z.γ z.own d t.frm s t.val) ∧ Γ' = [] ∧ H' = [Res.cells (postN d (postE z.γ z.own d t.frm s t.val) s (⟨t.val, htv⟩ : N256)).p (dlC (postN d (postE z.γ z.own d t.frm s t.val) s (⟨t.val, htv⟩ : N256))) 105, Res.row (postN d (postE z.γ z.own d t.frm s t.val) s (⟨t.val, htv⟩ : N256)).cv (postN d (postE z.γ z.own d t.frm s t.val) s (⟨t.val, htv⟩ : N256)).com.length 40 4 (bks natC (postN d (postE z.γ z.own d t.frm s t.val) s (⟨t.val, htv⟩ : N256)).com), mpR (postN d (postE z.γ z.own d t.frm s t.val) s (⟨t.val, htv⟩ : N256)).ba itK blV (postN d (postE z.γ z.own d t.frm s t.val) s (⟨t.val, htv⟩ : N256)).acks, mpR (postN d (postE z.γ z.own d t.frm s t.val) s (⟨t.val, htv⟩ : N256)).bt itK blV (postN d (postE z.γ z.own d t.frm s t.val) s (⟨t.val, htv⟩ : N256)).tried, mpR (postN d (postE z.γ z.own d t.frm s t.val) s (⟨t.val, htv⟩ : N256)).bp itK ntV (postN d (postE z.γ z.own d t.frm s t.val) s (⟨t.val, htv⟩ : N256)).pieces, mpR (postN d (postE z.γ z.own d t.frm s t.val) s (⟨t.val, htv⟩ : N256)).bo itK blV (postN d (postE z.γ z.own d t.frm s t.val) s (⟨t.val, htv⟩ : N256)).opened, cGrp z.γ, Res.mod z.γ.px z.γ.P, Res.mod z.γ.pq z.γ.Q]) := by
 refine Spec.of_args Tryz.func62 rfl Tryz.ntmps62 (by simp) fun w => ?_
 have hkl := ps_lt hps
 refine JC.know (φ := z.ps.length ≤ 9223372036854775807) (fun w hs => by obtain ⟨_, _, _, _, _, _, h⟩ := hs.rdForm (.tail _ (.tail _ (.tail _ (.tail _ (.head _))))); unfold maxLen at h; omega) fun hl4 => ?_
 refine JC.know (φ := z.own.length ≤ 9223372036854775807) (fun w hs => by obtain ⟨_, _, _, _, _, _, h⟩ := hs.rdForm (.tail _ (.tail _ (.tail _ (.head _)))); unfold maxLen at h; omega) fun hl3 => ?_
 refine .seq (.region ?_)
 refine .bx fun b3 => ?_
 refine .w (.assign rfl) ?_
 refine .nil (.tn (.seq ?_))
 refine JC.draw (.one 0 (.one 1 (.one 2 (.one 3 (.one 4 (.one 5 (.one 6 (.one 7 (.one 8 .nil))))))))) (fun i => ([] : List Nat).contains i) (fun i => ([] : List Nat).contains i) (fun i => ([0, 1, 2, 4, 6, 8] : List Nat).contains i) mixed (by kernel_rfl) (by decide) (by kernel_rfl) ?_
 refine .uw rfl (.move rfl) (.uw rfl (.nilCheck rfl) (.uw rfl (.fieldAddr fa_100_7 rfl) (.w rfl (.ld one_98 rfl) (.uw rfl (.fieldAddr fa_42_2 rfl) (.w rfl (.as (v' := it (k : Int)) (.ld one_3 rfl) (congrArg it hdl)) (.uw rfl (.ix1 Tryz.underlying98 sz_101 rfl rfl) ?_))))))
 refine .w rfl (.ld one_101 rfl (hj := by exact ps_at hps)) (.uw rfl (.assign rfl) ?_)
 refine .nil (.tn (.seq ?_))
 refine JC.draw (.one 0 (.one 1 (.one 2 (.one 3 (.one 4 (.one 5 (.one 6 (.one 7 (.one 8 (.one 9 (.one 10 (.one 11 (.one 12 .nil))))))))))))) (fun i => ([11] : List Nat).contains i) (fun i => ([10, 11] : List Nat).contains i) (fun i => ([0, 1, 2, 4, 7, 8, 9, 12] : List Nat).contains i) mixed (by kernel_rfl) (by decide) (by kernel_rfl) ?_
 refine .uw rfl (.move rfl) (.uw rfl (.nilCheck rfl) (.uw rfl (.fieldAddr fa_105_5 rfl) (.w rfl (.ld one_103 rfl) (.uw rfl (.fieldAddr fa_42_3 rfl) (.w rfl (.as (v' := it (s : Int)) (.ld one_3 rfl) (congrArg it hs)) (.w rfl (.lk2 (s : Int) Tryz.underlying103 mkey_103 zf_40) ?_))))))
 refine .uw rfl (.move rfl) (.uw rfl (.as (v' := .agg ((wd (d.piece (s : Int))).map u64).toArray) (.extract rfl rfl) (piece_get d (s : Int))) (.uw rfl (.as (v' := .bool (d.pieces.get (s : Int)).isSome) (.extract rfl rfl) rfl) ?_))
 refine .mw rfl (Mv.alloc zero_40) ?_
 rintro _ _ _ ⟨b6, rfl, rfl, rfl⟩
 refine kp ?_
 refine .mw0 rfl (.sa sz_40) ?_
 rintro _ _ _ ⟨rfl, rfl⟩
 refine kp ?_
 refine .uw rfl (.assign rfl) ?_
 refine .nil (.tn (.seq (.block (.seq ?_))))
 refine JC.draw (.one 0 (.one 1 (.one 2 (.one 3 (.one 4 (.one 5 (.one 6 (.one 7 (.one 8 (.one 9 (.one 10 (.one 11 (.one 12 (.one 13 (.one 14 (.one 15 (.one 16 (.one 17 (.one 18 .nil))))))))))))))))))) (fun i => ([] : List Nat).contains i) (fun i => ([3] : List Nat).contains i) (fun i => ([0, 1, 4, 5, 6, 7, 8, 10, 12, 14, 16, 17, 18] : List Nat).contains i) mixed (by kernel_rfl) (by decide) (by kernel_rfl) ?_
 refine .uw rfl (.move rfl) (.uw rfl (.fieldAddr fa_42_2 rfl) (.w rfl (.as (v' := it (k : Int)) (.ld one_3 rfl) (congrArg it hdl)) ?_))
 refine .mw rfl (.c (f66_spec z d k hps) body_66) ?_
 rintro _ _ _ ⟨rfl, rfl, rfl⟩
 refine kp ?_
 refine .uw rfl (.not rfl) (.uw rfl (.move rfl) ?_)
 refine JR.gsplit (g := 31) rfl (fun hg31 => ?_) (fun hg31 => ?_)
 ·have hg31' := hg31
  try simp only [decide_eq_true_eq, decide_eq_false_iff_not, Bool.not_eq_true', Bool.not_eq_false', ne_eq, Decidable.not_not, Bool.not_eq_true, Bool.and_eq_true, Bool.or_eq_true, BitVec.reduceToNat] at hg31'
  have he : postE z.γ z.own d t.frm s t.val = 51 := if_pos (.inl (by simpa using hg31'))
  refine JR.gf (g := 32) rfl rfl rfl rfl hg31 (by decide) ?_
  refine JR.gf (g := 32) rfl rfl rfl rfl hg31 (by decide) ?_
  refine JR.gf (g := 32) rfl rfl rfl rfl hg31 (by decide) ?_
  refine JR.gf (g := 32) rfl rfl rfl rfl hg31 (by decide) ?_
  refine JR.gf (g := 32) rfl rfl rfl rfl hg31 (by decide) ?_
  refine JR.gf (g := 32) rfl rfl rfl rfl hg31 (by decide) ?_
  refine JR.gf (g := 32) rfl rfl rfl rfl hg31 (by decide) ?_
  refine JR.gf (g := 32) rfl rfl rfl rfl hg31 (by decide) ?_
  refine JR.gf (g := 32) rfl rfl rfl rfl hg31 (by decide) ?_
  refine JR.gf (g := 32) rfl rfl rfl rfl hg31 (by decide) ?_
  refine JR.gf (g := 32) rfl rfl rfl rfl hg31 (by decide) ?_
  refine JR.u rfl rfl rfl (Yv.pick1 rfl hg31 rfl) (by decide) (.uw rfl (.assign rfl) ?_)
  refine .nil (.tn ?_)
  refine .k1 rfl rfl ?_
  refine .seq (.region ?_)
  refine .w (.assign rfl) ?_
  refine .nil (.tn (.ret (.block_ret (.then_ret ?_))))
  exact .dn [] [Res.cells d.p _ 105, Res.row _ _ 40 4 _, mpR d.ba itK blV _, mpR d.bt itK blV _, mpR d.bp itK ntV _, mpR d.bo itK blV _, cGrp z.γ, Res.mod z.γ.px z.γ.P, Res.mod z.γ.pq z.γ.Q] (res1 rfl (.tmp rfl)) ⟨by rw [he], rfl, by rw [he]; rfl⟩
 ·have hg31' := hg31
  try simp only [decide_eq_true_eq, decide_eq_false_iff_not, Bool.not_eq_true', Bool.not_eq_false', ne_eq, Decidable.not_not, Bool.not_eq_true, Bool.and_eq_true, Bool.or_eq_true, BitVec.reduceToNat] at hg31'
  have hq : QualP z.own d := by simpa using hg31'
  refine JR.ugt (g := 32) rfl rfl rfl rfl rfl hg31 (.move rfl) (by decide) ?_
  refine JR.ugt (g := 32) rfl rfl rfl rfl rfl hg31 (.nilCheck rfl) (by decide) ?_
  refine JR.ugt (g := 32) rfl rfl rfl rfl rfl hg31 (.fieldAddr fa_100_6 rfl) (by decide) ?_
  refine JR.vgt (g := 32) rfl rfl rfl rfl rfl hg31 (.ld one_37 rfl) (by decide) ?_
  refine JR.ugt (g := 32) rfl rfl rfl rfl rfl hg31 (.fieldAddr fa_42_3 rfl) (by decide) ?_
  refine JR.vgt (g := 32) rfl rfl rfl rfl rfl hg31 (.as (v' := it (s : Int)) (.ld one_3 rfl) (congrArg it hs)) (by decide) ?_
  refine JR.ugt (g := 32) rfl rfl rfl rfl rfl hg31 (.ix1 Tryz.underlying37 sz_3 rfl rfl) (by decide) ?_
  refine JR.vgt (g := 32) rfl rfl rfl rfl rfl hg31 (.as (v' := it (z.own.getD s 0)) (.ld one_3 rfl (hj := by exact gm (d := 0) (by omega))) rfl) (by decide) ?_
  refine JR.ugt (g := 32) rfl rfl rfl rfl rfl hg31 (.fieldAddr fa_42_1 rfl) (by decide) ?_
  refine JR.vgt (g := 32) rfl rfl rfl rfl rfl hg31 (.ld one_3 rfl) (by decide) ?_
  refine JR.ugt (g := 32) rfl rfl rfl rfl rfl hg31 (.bin rfl rfl BinR.neq_i) (by decide) ?_
  refine JR.u rfl rfl rfl (Yv.pick0 rfl hg31 rfl) (by decide) (.uw rfl (.assign rfl) ?_)
  refine .nil (.tn ?_)
  refine .cn rfl (fun hc1 => ?_) (fun hc1 => ?_)
  ·have he : postE z.γ z.own d t.frm s t.val = 51 := if_pos (.inr hc1)
   refine .seq (.region ?_)
   refine .w (.assign rfl) ?_
   refine .nil (.tn (.ret (.block_ret (.then_ret ?_))))
   exact .dn [] [Res.cells d.p _ 105, Res.row _ _ 40 4 _, mpR d.ba itK blV _, mpR d.bt itK blV _, mpR d.bp itK ntV _, mpR d.bo itK blV _, cGrp z.γ, Res.mod z.γ.px z.γ.P, Res.mod z.γ.pq z.γ.Q] (res1 rfl (.tmp rfl)) ⟨by rw [he], rfl, by rw [he]; rfl⟩
  ·have hn1 : ¬ (¬ QualP z.own d ∨ z.own.getD s 0 ≠ t.frm) := fun h => h.elim (fun h => h hq) (fun h => h hc1)
   refine .seq (.region ?_)
   refine .w (.move rfl) (.w (.assign rfl) ?_)
   refine .nil (.tn ?_)
   refine .cn rfl (fun hc2 => ?_) (fun hc2 => ?_)
   ·have he : postE z.γ z.own d t.frm s t.val = 13 := by rw [postE, if_neg hn1, if_pos hc2]
    refine .seq (.region ?_)
    refine .w (.assign rfl) ?_
    refine .nil (.tn (.ret (.block_ret (.then_ret ?_))))
    exact .dn [] [Res.cells d.p _ 105, Res.row _ _ 40 4 _, mpR d.ba itK blV _, mpR d.bt itK blV _, mpR d.bp itK ntV _, mpR d.bo itK blV _, cGrp z.γ, Res.mod z.γ.px z.γ.P, Res.mod z.γ.pq z.γ.Q] (res1 rfl (.tmp rfl)) ⟨by rw [he], rfl, by rw [he]; rfl⟩
   ·have hp2 : ¬ (d.pieces.get (s : Int)).isSome = true := by rw [hc2]; decide
    refine .seq (.region ?_)
    refine .w (.move rfl) (.w (.fieldAddr fa_42_2 rfl) (.w (.as (v' := it (k : Int)) (.ld one_3 rfl) (congrArg it hdl)) (.w (.fieldAddr fa_42_3 rfl) (.w (.as (v' := it (s : Int)) (.ld one_3 rfl) (congrArg it hs)) (.w (.fieldAddr fa_42_5 rfl) (.w (.as (v' := .agg ((wd t.val).map u64).toArray) (.lda agg_40 rfl) (by rfl)) (.c (f121_spec z hγ d hd k hps (s : Int) t.val htv) body_121 ?_)))))))
    refine .w (.not rfl) (.w (.assign rfl) ?_)
    refine .nil (.tn ?_)
    refine .cn rfl (fun hc3 => ?_) (fun hc3 => ?_)
    ·have he : postE z.γ z.own d t.frm s t.val = 40 := by rw [postE, if_neg hn1, if_neg hp2, if_pos (by simpa using hc3)]
     refine .seq (.region ?_)
     refine .w (.assign rfl) ?_
     refine .nil (.tn (.ret (.block_ret (.then_ret ?_))))
     exact .dn [] [Res.cells d.p _ 105, Res.row _ _ 40 4 _, mpR d.ba itK blV _, mpR d.bt itK blV _, mpR d.bp itK ntV _, mpR d.bo itK blV _, cGrp z.γ, Res.mod z.γ.px z.γ.P, Res.mod z.γ.pq z.γ.Q] (res1 rfl (.tmp rfl)) ⟨by rw [he], rfl, by rw [he]; rfl⟩
    ·have he : postE z.γ z.own d t.frm s t.val = 0 := by rw [postE, if_neg hn1, if_neg hp2, if_neg (by simpa using hc3)]
     refine .skip (.block_normal (.tn (.seq ?_)))
     refine JC.draw (.one 0 (.one 1 (.one 2 (.one 3 (.one 4 (.one 5 (.one 6 (.one 7 (.one 8 .nil))))))))) (fun i => ([8] : List Nat).contains i) (fun i => ([8] : List Nat).contains i) (fun i => ([0, 1, 2, 4, 6] : List Nat).contains i) mixed (by kernel_rfl) (by decide) (by kernel_rfl) ?_
     refine .uw rfl (.move rfl) (.uw rfl (.nilCheck rfl) (.uw rfl (.fieldAddr fa_105_5 rfl) (.w rfl (.ld one_103 rfl) (.uw rfl (.fieldAddr fa_42_3 rfl) (.w rfl (.as (v' := it (s : Int)) (.ld one_3 rfl) (congrArg it hs)) (.uw rfl (.fieldAddr fa_42_5 rfl) ?_))))))
     refine .w rfl (.as (v' := .agg ((wd t.val).map u64).toArray) (.lda agg_40 rfl) (by rfl)) ?_
     refine .mw0 rfl (.mu (s : Int) (⟨t.val, htv⟩ : N256) Tryz.underlying103 mkey_103) ?_
     rintro _ _ _ ⟨rfl, rfl⟩
     refine kp ?_
     refine .nil (.tn (.seq (.region ?_)))
     refine .w (.assign rfl) ?_
     refine .nil (.tn (.ret ?_))
     exact .dn [] [Res.cells d.p _ 105, Res.row _ _ 40 4 _, mpR d.ba itK blV _, mpR d.bt itK blV _, mpR d.bp itK ntV _, mpR d.bo itK blV _, cGrp z.γ, Res.mod z.γ.px z.γ.P, Res.mod z.γ.pq z.γ.Q] (res1 rfl (.tmp rfl)) ⟨by rw [he], rfl, by rw [he]; rfl⟩
theorem f14_spec (z : ES) (ds : List DL) (hps : ds.map (·.p) = z.ps) (h40 : z.ps.length ≤ 40) :
  Spec Tryz.prog 14 #[(ptr z.s 0)] [Res.cells z.s (stC z) 100, Res.rd z.sv z.S.length 1 (z.S.map u64), Res.rd z.cv z.cnt.length 1 (z.cnt.map it), Res.rd z.ov z.own.length 1 (z.own.map it), Res.rd z.av z.ps.length 1 (z.ps.map fun p => ptr p 0), Res.sep (ds.map dR)] []
   (fun r Γ' H' => ∃ v, r = v ∧ Γ' = [] ∧ H' = [Res.row v (qualT z.own ds ds.length).length 3 1 ((qualT z.own ds ds.length).map it)]) := by
 refine Spec.of_args Tryz.func14 rfl Tryz.ntmps14 (by simp) fun w => ?_
 refine JC.know (φ := z.ps.length ≤ 9223372036854775807) (fun w hs => by obtain ⟨_, _, _, _, _, _, h⟩ := hs.rdForm (.tail _ (.tail _ (.tail _ (.tail _ (.head _))))); unfold maxLen at h; omega) fun hll => ?_
 refine .seq (.region ?_)
 refine .w (.assign rfl) ?_
 refine .nil (.tn (.seq (.region ?_)))
 refine JO.nilRow 3 1 ?_
 refine .w (.assign rfl) ?_
 refine .nil (.tn (.seq (.seq (.region ?_))))
 refine .w (.move rfl) (.w (.nilCheck rfl) (.w (.fieldAddr fa_100_7 rfl) (.w (.ld one_98 rfl) (.w (.len Tryz.underlying98 rfl) (.w (.move rfl) ?_)))))
 refine .nil (.tn (.block ?_))
 refine .lp (ι := Nat × Value) (fun x => x.1 ≤ z.ps.length) (fun T x => (10, it (x.1 : Int)) :: (3, x.2) :: T) (fun T _ => T) (fun T x => Res.row x.2 (qualT z.own ds x.1).length 3 1 ((qualT z.own ds x.1).map it) :: T) (fun x => z.ps.length - x.1) (0, .slice none 0 0) [0, 2, 9, 21] ?_ (fun x hx => ?_)
 ·exact Nat.zero_le _
 obtain ⟨k, vo⟩ := x
 have hk := hx
 dsimp only at hk ⊢
 refine .seq (.region ?_)
 refine .w (.bin rfl rfl BinR.lss_i) ?_
 refine .nil (.tn (.seq ?_))
 refine .cn rfl (fun hc1 => ?_) (fun hc1 => ?_)
 ·have hql := qual_len z.own ds k
  obtain ⟨hpk, hkd⟩ := ps_get hps (k := k) (by omega)
  refine JC.dlr (ds := ds) (ds.getD k DZ) (ds_mem hkd) ?_
  refine .skip (.tn (.seq (.block (.seq (.region ?_)))))
  refine .w (.move rfl) (.w (.assign rfl) ?_)
  refine .nil (.tn (.seq (.region ?_)))
  refine .w (.move rfl) (.w (.move rfl) (.c (f66_spec z (ds.getD k DZ) k hpk) body_66 ?_))
  refine .nil (.tn ?_)
  refine .cn rfl (fun hc2 => ?_) (fun hc2 => ?_)
  ·skip
   refine .region (.w (.move rfl) (.w (.move rfl) ?_))
   refine .l1 Tryz.underlying37 info_3 (fun v18 => ?_)
   refine .ap Tryz.underlying37 info_3 (fun v19 => ?_)
   rw [show (qualT z.own ds k).length + 1 = (qualT z.own ds (k + 1)).length from by rw [qual_y hc2]; simp, show (qualT z.own ds k).map it ++ [it (k : Int)] = (qualT z.own ds (k + 1)).map it from by rw [qual_y hc2, List.map_append]; rfl]
   refine .w (.assign rfl) ?_
   refine .nil (.block_normal (.tn (.region ?_)))
   refine .w (.asI ((k + 1 : Nat) : Int) (.bin rfl rfl (BinR.add_i zq3))) (.w (.move rfl) (.nil ?_))
   refine .hd (k + 1, v19) ?_
   exact ⟨by dsimp only; omega, by dsimp only; omega⟩
  ·rw [← qual_n hc2]
   refine .skip (.block_normal (.tn (.region ?_)))
   refine .w (.asI ((k + 1 : Nat) : Int) (.bin rfl rfl (BinR.add_i zq3))) (.w (.move rfl) (.nil ?_))
   refine .hd (k + 1, vo) ?_
   exact ⟨by dsimp only; omega, by dsimp only; omega⟩
 ·obtain rfl : k = z.ps.length := by omega
  have hlen : z.ps.length = ds.length := by rw [← hps, List.length_map]
  refine .exit (.then_exit (.then_exit (.block_exit (.tn (.seq (.region ?_))))))
  refine .w (.move rfl) (.w (.assign rfl) ?_)
  refine .nil (.tn (.ret ?_))
  exact .dn [] [Res.row vo (qualT z.own ds z.ps.length).length 3 1 ((qualT z.own ds z.ps.length).map it)] (res1 rfl (.tmp rfl)) ⟨vo, rfl, rfl, by rw [hlen]⟩

theorem f13_spec (z : ES) (ds : List DL) (hps : ds.map (·.p) = z.ps) (h40 : z.ps.length ≤ 40) :
  Spec Tryz.prog 13 #[(ptr z.s 0)] [Res.cells z.s (stC z) 100, Res.rd z.sv z.S.length 1 (z.S.map u64), Res.rd z.cv z.cnt.length 1 (z.cnt.map it), Res.rd z.ov z.own.length 1 (z.own.map it), Res.rd z.av z.ps.length 1 (z.ps.map fun p => ptr p 0), Res.sep (ds.map dR)] []
   (fun r Γ' H' => ∃ v, r = v ∧ Γ' = [] ∧ H' = [Res.row v (faultL z.own ds).length 3 1 ((faultL z.own ds).map it)]) := by
 refine Spec.of_args Tryz.func13 rfl Tryz.ntmps13 (by simp) fun w => ?_
 refine JC.know (φ := z.ps.length ≤ 9223372036854775807) (fun w hs => by obtain ⟨_, _, _, _, _, _, h⟩ := hs.rdForm (.tail _ (.tail _ (.tail _ (.tail _ (.head _))))); unfold maxLen at h; omega) fun hll => ?_
 have hlm : z.ps.length ≤ 40 := h40
 refine .seq (.region ?_)
 refine .w (.assign rfl) ?_
 refine .nil (.tn (.seq (.region ?_)))
 refine .w (.move rfl) (.w (.nilCheck rfl) (.w (.fieldAddr fa_100_7 rfl) (.w (.ld one_98 rfl) (.w (.len Tryz.underlying98 rfl) ?_))))
 refine .mk1 Tryz.underlying37 info_3 (fun v11 => ?_)
 rw [flt_0 z.own ds z.ps.length]
 refine .w (.assign rfl) ?_
 refine .nil (.tn (.seq (.seq (.region ?_))))
 refine .w (.move rfl) (.w (.nilCheck rfl) (.w (.fieldAddr fa_100_7 rfl) (.w (.ld one_98 rfl) (.w (.len Tryz.underlying98 rfl) (.w (.move rfl) ?_)))))
 refine .nil (.tn (.block ?_))
 refine .lp (ι := Nat) (fun x => x ≤ z.ps.length) (fun T x => (17, it (x : Int)) :: T) (fun T _ => T) (fun T x => Res.row v11 z.ps.length 3 1 (fltT z.own ds x z.ps.length) :: T) (fun x => z.ps.length - x) 0 [0, 2, 3, 15, 16, 66] ?_ (fun x hx => ?_)
 ·exact Nat.zero_le _
 obtain ⟨k, hk⟩ : ∃ k, k = x := ⟨_, rfl⟩
 subst hk
 have hk := hx
 refine .seq (.region ?_)
 refine .w (.bin rfl rfl BinR.lss_i) ?_
 refine .nil (.tn (.seq ?_))
 refine .cn rfl (fun hc1 => ?_) (fun hc1 => ?_)
 ·obtain ⟨hpk, hkd⟩ := ps_get hps (k := k) (by omega)
  refine JC.dlr (ds := ds) (ds.getD k DZ) (ds_mem hkd) ?_
  refine .skip (.tn (.seq (.block (.seq (.region ?_)))))
  refine .w (.move rfl) (.w (.ix1 Tryz.underlying98 sz_101 rfl rfl) (.w (.ld one_101 rfl (hj := by exact ps_at hpk)) (.w (.assign rfl) (.w (.assign rfl) ?_))))
  refine .nil (.tn (.block (.seq (.region ?_))))
  refine .w (.move rfl) (.w (.nilCheck rfl) (.w (.fieldAddr fa_105_1 rfl) (.w (.as (v' := .bool (ds.getD k DZ).mal) (.ld one_4 rfl) rfl) (.w (.assign rfl) ?_))))
  refine .nil (.tn ?_)
  refine .cn rfl (fun hc2 => ?_) (fun hc2 => ?_)
  ·have hf : faultE z.own (ds.getD k DZ) = 1 := if_pos hc2
   refine .region (.w (.move rfl) (.w (.move rfl) (.w (.ix1 Tryz.underlying37 sz_3 rfl rfl) ?_)))
   refine .sr1 sz_3 ?_
   rw [flt_set (e := 1) hf]
   refine .nil (.block_normal (.block_normal (.tn (.region ?_))))
   refine .w (.asI ((k + 1 : Nat) : Int) (.bin rfl rfl (BinR.add_i zq3))) (.w (.move rfl) (.nil ?_))
   refine .hd (k + 1) ?_
   exact ⟨by omega, by omega⟩
  ·skip
   refine .seq (.region ?_)
   refine .w (.move rfl) (.w (.nilCheck rfl) (.w (.fieldAddr fa_105_2 rfl) (.w (.as (v' := .bool (ds.getD k DZ).fail) (.ld one_4 rfl) rfl) (.w (.assign rfl) ?_))))
   refine .nil (.tn ?_)
   refine .cn rfl (fun hc3 => ?_) (fun hc3 => ?_)
   ·have hf : faultE z.own (ds.getD k DZ) = 2 := by rw [faultE, if_neg (by rw [hc2]; decide), if_pos hc3]
    refine .region (.w (.move rfl) (.w (.move rfl) (.w (.ix1 Tryz.underlying37 sz_3 rfl rfl) ?_)))
    refine .sr1 sz_3 ?_
    rw [flt_set (e := 2) hf]
    refine .nil (.block_normal (.block_normal (.tn (.region ?_))))
    refine .w (.asI ((k + 1 : Nat) : Int) (.bin rfl rfl (BinR.add_i zq3))) (.w (.move rfl) (.nil ?_))
    refine .hd (k + 1) ?_
    exact ⟨by omega, by omega⟩
   ·skip
    refine .seq (.region ?_)
    refine .w (.move rfl) (.w (.move rfl) (.c (f65_spec z (ds.getD k DZ) k hpk) body_65 ?_))
    refine .w (.move rfl) ?_
    refine .join 5 47 (.bool (decide (0 < (ds.getD k DZ).com.length ∧ ¬ QualP z.own (ds.getD k DZ)))) ?_ ?_
    ·refine .gn (g := 41) rfl (fun hg43 hg43' => ?_) (fun hg43 hg43' => ?_)
     ·refine .gt (g := 42) rfl rfl hg43 ?_
      refine .w (.move rfl) ?_
      refine .gt (g := 42) rfl rfl hg43 ?_
      refine .w (.move rfl) ?_
      refine .gt (g := 42) rfl rfl hg43 ?_
      refine .c (f66_spec z (ds.getD k DZ) k hpk) body_66 ?_
      refine .gt (g := 42) rfl rfl hg43 ?_
      refine .w (.not rfl) (.w (.pick1 rfl hg43 rfl) (.nil ?_))
      refine .head () (by first | (refine ⟨by first | rfl | exact congrArg (fun b => some (Value.bool b)) (by first | (simp only [hg43', true_and, decide_not]; done) | (simp only [hg43', false_and, decide_false]; done) | (simp only [hg43', true_and]; cases (ds.getD k DZ).rev <;> rfl)), ?_⟩; repeat (first | exact trivial | refine ⟨rfl, ?_⟩))) (fun _ h => h) (Picks.perm zq1) ?_
      trivial
     ·refine .gf (g := 42) rfl rfl hg43 (by decide) ?_
      refine .gf (g := 42) rfl rfl hg43 (by decide) ?_
      refine .gf (g := 42) rfl rfl hg43 (by decide) ?_
      refine .gf (g := 42) rfl rfl hg43 (by decide) ?_
      refine .w (.pick0 rfl hg43 rfl) (.nil ?_)
      refine .head () (by first | (refine ⟨by first | rfl | exact congrArg (fun b => some (Value.bool b)) (by first | (simp only [hg43', true_and, decide_not]; done) | (simp only [hg43', false_and, decide_false]; done) | (simp only [hg43', true_and]; cases (ds.getD k DZ).rev <;> rfl)), ?_⟩; repeat (first | exact trivial | refine ⟨rfl, ?_⟩))) (fun _ h => h) (Picks.perm zq1) ?_
      trivial
    ·refine .w (.assign rfl) ?_
     refine .nil (.tn ?_)
     refine .cn rfl (fun hc4 => ?_) (fun hc4 => ?_)
     ·have hf : faultE z.own (ds.getD k DZ) = 3 := by rw [faultE, if_neg (by rw [hc2]; decide), if_neg (by rw [hc3]; decide), if_pos hc4]
      refine .region (.w (.move rfl) (.w (.move rfl) (.w (.ix1 Tryz.underlying37 sz_3 rfl rfl) ?_)))
      refine .sr1 sz_3 ?_
      rw [flt_set (e := 3) hf]
      refine .nil (.block_normal (.block_normal (.tn (.region ?_))))
      refine .w (.asI ((k + 1 : Nat) : Int) (.bin rfl rfl (BinR.add_i zq3))) (.w (.move rfl) (.nil ?_))
      refine .hd (k + 1) ?_
      exact ⟨by omega, by omega⟩
     ·skip
      refine .seq (.region ?_)
      refine .w (.move rfl) (.w (.move rfl) (.c (f65_spec z (ds.getD k DZ) k hpk) body_65 ?_))
      refine .w (.move rfl) ?_
      refine .join 6 61 (.bool (decide (0 < (ds.getD k DZ).com.length ∧ (ds.getD k DZ).rev = false))) ?_ ?_
      ·refine .gn (g := 54) rfl (fun hg57 hg57' => ?_) (fun hg57 hg57' => ?_)
       ·refine .gt (g := 55) rfl rfl hg57 ?_
        refine .w (.move rfl) ?_
        refine .gt (g := 55) rfl rfl hg57 ?_
        refine .w (.nilCheck rfl) ?_
        refine .gt (g := 55) rfl rfl hg57 ?_
        refine .w (.fieldAddr fa_105_8 rfl) ?_
        refine .gt (g := 55) rfl rfl hg57 ?_
        refine .w (.as (v' := .bool (ds.getD k DZ).rev) (.ld one_4 rfl) rfl) ?_
        refine .gt (g := 55) rfl rfl hg57 ?_
        refine .w (.not rfl) (.w (.pick1 rfl hg57 rfl) (.nil ?_))
        refine .head () (by first | (refine ⟨by first | rfl | exact congrArg (fun b => some (Value.bool b)) (by first | (simp only [hg57', true_and, decide_not]; done) | (simp only [hg57', false_and, decide_false]; done) | (simp only [hg57', true_and]; cases (ds.getD k DZ).rev <;> rfl)), ?_⟩; repeat (first | exact trivial | refine ⟨rfl, ?_⟩))) (fun _ h => h) (Picks.perm zq1) ?_
        trivial
       ·refine .gf (g := 55) rfl rfl hg57 (by decide) ?_
        refine .gf (g := 55) rfl rfl hg57 (by decide) ?_
        refine .gf (g := 55) rfl rfl hg57 (by decide) ?_
        refine .gf (g := 55) rfl rfl hg57 (by decide) ?_
        refine .gf (g := 55) rfl rfl hg57 (by decide) ?_
        refine .w (.pick0 rfl hg57 rfl) (.nil ?_)
        refine .head () (by first | (refine ⟨by first | rfl | exact congrArg (fun b => some (Value.bool b)) (by first | (simp only [hg57', true_and, decide_not]; done) | (simp only [hg57', false_and, decide_false]; done) | (simp only [hg57', true_and]; cases (ds.getD k DZ).rev <;> rfl)), ?_⟩; repeat (first | exact trivial | refine ⟨rfl, ?_⟩))) (fun _ h => h) (Picks.perm zq1) ?_
        trivial
      ·refine .w (.assign rfl) ?_
       refine .nil (.tn ?_)
       refine .cn rfl (fun hc5 => ?_) (fun hc5 => ?_)
       ·have hf : faultE z.own (ds.getD k DZ) = 4 := by rw [faultE, if_neg (by rw [hc2]; decide), if_neg (by rw [hc3]; decide), if_neg hc4, if_pos hc5]
        refine .region (.w (.move rfl) (.w (.move rfl) (.w (.ix1 Tryz.underlying37 sz_3 rfl rfl) ?_)))
        refine .sr1 sz_3 ?_
        rw [flt_set (e := 4) hf]
        refine .nil (.block_normal (.block_normal (.tn (.region ?_))))
        refine .w (.asI ((k + 1 : Nat) : Int) (.bin rfl rfl (BinR.add_i zq3))) (.w (.move rfl) (.nil ?_))
        refine .hd (k + 1) ?_
        exact ⟨by omega, by omega⟩
       ·have hf : faultE z.own (ds.getD k DZ) = 0 := by rw [faultE, if_neg (by rw [hc2]; decide), if_neg (by rw [hc3]; decide), if_neg hc4, if_neg hc5]
        rw [flt_no hf]
        refine .skip (.block_normal (.block_normal (.tn (.region ?_))))
        refine .w (.asI ((k + 1 : Nat) : Int) (.bin rfl rfl (BinR.add_i zq3))) (.w (.move rfl) (.nil ?_))
        refine .hd (k + 1) ?_
        exact ⟨by omega, by omega⟩
 ·obtain rfl : k = z.ps.length := by omega
  have hlen : z.ps.length = ds.length := by rw [← hps, List.length_map]
  refine .exit (.then_exit (.then_exit (.block_exit (.tn (.seq (.region ?_))))))
  refine .w (.move rfl) (.w (.assign rfl) ?_)
  refine .nil (.tn (.ret ?_))
  exact .dn [] [Res.row v11 z.ps.length 3 1 (fltT z.own ds z.ps.length z.ps.length)] (res1 rfl (.tmp rfl)) ⟨v11, rfl, rfl, by rw [hlen, flt_all]; simp [faultL]⟩
theorem f16_spec (z : ES) (ds : List DL) (hps : ds.map (·.p) = z.ps) (h40 : z.ps.length ≤ 40) (hS : SmG z.γ) (hds : ∀ d ∈ ds, DOk d) (hdr : AllR z.γ ds) (k : Nat) (hkd : k < ds.length) :
  Spec Tryz.prog 16 #[(ptr z.s 0), (it (k : Int))] [Res.cells z.s (stC z) 100, Res.rd z.sv z.S.length 1 (z.S.map u64), Res.rd z.cv z.cnt.length 1 (z.cnt.map it), Res.rd z.ov z.own.length 1 (z.own.map it), Res.rd z.av z.ps.length 1 (z.ps.map fun p => ptr p 0), Res.sep (ds.map dR), Res.var 2 ((wd 1).map u64)] [cGrp z.γ, Res.mod z.γ.px z.γ.P, Res.mod z.γ.pq z.γ.Q]
   (fun r Γ' H' => r = .tuple #[(.agg ((wd (if QualP z.own (ds.getD k DZ) ∧ SecP (ds.getD k DZ) then secN z.γ (ds.getD k DZ) else 0)).map u64).toArray), .bool (decide (QualP z.own (ds.getD k DZ) ∧ SecP (ds.getD k DZ)))] ∧ Γ' = [] ∧ H' = [cGrp z.γ, Res.mod z.γ.px z.γ.P, Res.mod z.γ.pq z.γ.Q]) := by
 refine Spec.of_args Tryz.func16 rfl Tryz.ntmps16 (by simp) fun w => ?_
 have hlen : z.ps.length = ds.length := by rw [← hps, List.length_map]
 have hpk := (ps_get hps (k := k) (by omega)).1
 have hdk := hds _ (ds_mem hkd)
 have hrk := hdr.at hkd
 have hp40 := hrk.few hdk
 refine JC.know (φ := z.ps.length ≤ 9223372036854775807) (fun w hs => by obtain ⟨_, _, _, _, _, _, h⟩ := hs.rdForm (.tail _ (.tail _ (.tail _ (.tail _ (.head _))))); unfold maxLen at h; omega) fun hll => ?_
 refine JC.dlr (ds := ds) (ds.getD k DZ) (ds_mem hkd) ?_
 refine .seq (.region ?_)
 refine .al zero_40 fun b4 => ?_
 refine .w (.assign rfl) ?_
 refine .nil (.tn (.seq (.seq (.region ?_))))
 refine .w (.move rfl) (.w (.move rfl) (.c (f63_spec z (k : Int)) body_63 ?_))
 refine .w (.as (v' := .bool false) (.not rfl) (congrArg Value.bool (by rw [decide_eq_true (show 0 ≤ (k : Int) ∧ (k : Int) < (z.ps.length : Int) by omega)]; rfl))) (.w (.move rfl) ?_)
 refine .gt (g := 16) rfl rfl rfl ?_
 refine .w (.move rfl) ?_
 refine .gt (g := 16) rfl rfl rfl ?_
 refine .w (.move rfl) ?_
 refine .gt (g := 16) rfl rfl rfl ?_
 refine .c (f66_spec z (ds.getD k DZ) k hpk) body_66 ?_
 refine .gt (g := 16) rfl rfl rfl ?_
 refine .w (.not rfl) (.w (.pick0 rfl rfl rfl) ?_)
 refine .nil (.tn ?_)
 refine .cn rfl (fun hc1 => ?_) (fun hc1 => ?_)
 ·have hq : ¬ QualP z.own (ds.getD k DZ) := by simpa using hc1
  have hnq : ¬ (QualP z.own (ds.getD k DZ) ∧ SecP (ds.getD k DZ)) := fun h => hq h.1
  refine .seq (.region ?_)
  refine .w (.as (v' := .agg ((wd 0).map u64).toArray) (.build bld_40 rfl rfl) (by rfl)) (.sa sz_40 ?_)
  refine .w (.assign rfl) ?_
  refine .nil (.tn (.ret (.then_ret ?_)))
  exact .dn [] [cGrp z.γ, Res.mod z.γ.px z.γ.P, Res.mod z.γ.pq z.γ.Q] (res2 rfl (.cl agg_40) (.tmp rfl)) ⟨by rw [if_neg hnq, decide_eq_false hnq], rfl, rfl⟩
 ·have hq : QualP z.own (ds.getD k DZ) := by simpa using hc1
  refine .skip (.tn (.seq (.region ?_)))
  refine .w (.move rfl) (.w (.nilCheck rfl) (.w (.fieldAddr fa_100_7 rfl) (.w (.ld one_98 rfl) (.w (.move rfl) (.w (.ix1 Tryz.underlying98 sz_101 rfl rfl) (.w (.ld one_101 rfl (hj := by exact ps_at hpk)) ?_))))))
  refine .w (.assign rfl) ?_
  refine .nil (.tn (.seq (.seq (.region ?_))))
  refine .w (.move rfl) (.w (.nilCheck rfl) (.w (.fieldAddr fa_105_8 rfl) (.w (.as (v' := .bool (ds.getD k DZ).rev) (.ld one_4 rfl) rfl) ?_)))
  refine .nil (.tn ?_)
  refine .cn rfl (fun hc2 => ?_) (fun hc2 => ?_)
  ·have hyq : QualP z.own (ds.getD k DZ) ∧ SecP (ds.getD k DZ) := ⟨hq, .inl hc2⟩
   have hsec := (hrk.rv hc2).1
   refine .seq (.region ?_)
   refine .w (.move rfl) (.w (.nilCheck rfl) (.w (.fieldAddr fa_105_7 rfl) (.w (.as (v' := .agg ((wd (ds.getD k DZ).sec).map u64).toArray) (.lda agg_40 rfl) (by rfl)) (.sa sz_40 ?_))))
   refine .w (.assign rfl) ?_
   refine .nil (.tn (.ret (.then_ret ?_)))
   exact .dn [] [cGrp z.γ, Res.mod z.γ.px z.γ.P, Res.mod z.γ.pq z.γ.Q] (res2 rfl (.cl agg_40) (.tmp rfl)) ⟨by rw [if_pos hyq, decide_eq_true hyq, hsec]; rfl, rfl, rfl⟩
  ·have hrev : ¬ (ds.getD k DZ).rev = true := by rw [hc2]; decide
   refine .skip (.tn (.seq (.region ?_)))
   refine JO.nilRow 113 5 ?_
   refine .w (.assign rfl) ?_
   refine .nil (.tn (.seq (.seq (.region ?_))))
   refine .w (.move rfl) (.w (.nilCheck rfl) (.w (.fieldAddr fa_105_5 rfl) (.w (.ld one_103 rfl) ?_)))
   refine .rg Tryz.underlying103 fun r42 => ?_
   refine .nil (.tn (.block ?_))
   refine .lp (ι := List (Int × N256 × Nat) × Value) (fun x => (ds.getD k DZ).pieces.Walk x.1) (fun T x => (7, x.2) :: T) (fun T _ => T) (fun T x => miR r42 (ds.getD k DZ).bp (ds.getD k DZ).pieces x.1 :: Res.row x.2 x.1.length 113 5 (bks piB (x.1.map fun e => (e.1, e.2.1))) :: T) (fun x => (ds.getD k DZ).pieces.es.length - x.1.length) ([], .slice none 0 0) [0, 4, 5, 6, 10, 11, 42, 54, 55, 56, 57, 58, 59, 60, 61, 62, 63, 64, 65, 66, 67, 68, 69] ?_ (fun x hx => ?_)
   ·exact MM.Walk.nil
   obtain ⟨p, vl⟩ := x
   have hW := hx
   dsimp only at hW ⊢
   refine .seq (.region ?_)
   refine .nx hdk.pieces hW ?_ ?_
   ·intro hp
    have hra := rec_all hrk hdk hp
    rw [show Res.row vl p.length 113 5 (bks piB (p.map fun e => (e.1, e.2.1))) = Res.row vl (p.map fun e => (e.1, e.2.1)).length 113 5 (bks piB (p.map fun e => (e.1, e.2.1))) from by rw [List.length_map]]
    refine .w (.extract rfl rfl) ?_
    refine .nil (.tn (.seq ?_))
    refine .cf rfl ?_
    refine .exit (.then_exit (.then_exit (.block_exit (.tn (.seq ?_)))))
    refine JC.draw (.one 0 (.one 1 (.one 2 (.one 3 (.one 4 (.one 5 (.one 6 (.one 7 (.one 8 (.alt 9 (.one 10 (.one 11 (.one 12 (.one 13 (.one 14 (.one 15 .nil)))))) (.alt 13 (.one 9 (.one 10 (.one 11 (.one 12 (.one 14 (.one 15 .nil)))))) .nil))))))))))) (fun i => ([9, 13, 14] : List Nat).contains i) (fun i => ([9, 13, 14] : List Nat).contains i) (fun i => ([0, 1, 2, 3, 4, 5, 6, 7, 8, 10, 11, 12, 15] : List Nat).contains i) mixed (by kernel_rfl) (by decide) (by kernel_rfl) ?_
    refine .uw rfl (.move rfl) (.uw rfl (.nilCheck rfl) (.uw rfl (.fieldAddr fa_100_0 rfl) (.uw rfl (.ld one_28 rfl) (.uw rfl (.move rfl) (.uw rfl (.nilCheck rfl) (.uw rfl (.fieldAddr fa_105_0 rfl) ?_))))))
    refine .uw rfl (.ld one_38 rfl) (.uw rfl (.move rfl) ?_)
    refine JR.alt rfl ?_ ?_
    ·refine .mw rfl (.c (f70_spec z.γ hS (ds.getD k DZ).cv vl (ds.getD k DZ).com hdk.com hq.2 (p.map fun e => (e.1, e.2.1)) hra.1 hra.2.1 (by rw [hra.2.2]; omega)) body_70) ?_
     rintro _ _ _ ⟨rfl, rfl, rfl⟩
     rw [hra.2.2]
     refine kp ?_
     refine .uw rfl (.move rfl) (.uw rfl (.extract rfl rfl) (.uw rfl (.extract rfl rfl) ?_))
     refine .mw rfl (Mv.alloc zero_40) ?_
     rintro _ _ _ ⟨b10, rfl, rfl, rfl⟩
     refine kp ?_
     refine .mw0 rfl (.sa sz_40) ?_
     rintro _ _ _ ⟨rfl, rfl⟩
     refine kp ?_
     refine .uw rfl (.assign rfl) ?_
     refine .nil (.tn (.seq (.region ?_)))
     refine .w (.lda agg_40 rfl) (.w (.move rfl) (.w (.bin rfl rfl BinR.eql_i) (.sa sz_40 ?_)))
     refine .w (.assign rfl) ?_
     refine .nil (.tn (.ret ?_))
     have hfin : (Value.tuple #[.agg ((wd (if (ds.getD k DZ).pieces.es.length < (ds.getD k DZ).com.length then 0 else lgN z.γ ((ds.getD k DZ).com.getD 0 0))).map u64).toArray, .bool (decide ((if (ds.getD k DZ).pieces.es.length < (ds.getD k DZ).com.length then (3 : Int) else 0) = 0))]) = .tuple #[.agg ((wd (if QualP z.own (ds.getD k DZ) ∧ SecP (ds.getD k DZ) then secN z.γ (ds.getD k DZ) else 0)).map u64).toArray, .bool (decide (QualP z.own (ds.getD k DZ) ∧ SecP (ds.getD k DZ)))] := by
      by_cases hlt : (ds.getD k DZ).pieces.es.length < (ds.getD k DZ).com.length
      ·have hn2 : ¬ (QualP z.own (ds.getD k DZ) ∧ SecP (ds.getD k DZ)) := fun h => h.2.elim hrev (fun h => by omega)
       rw [if_neg hn2, decide_eq_false hn2, if_pos hlt, if_pos hlt]; rfl
      ·have hy2 : QualP z.own (ds.getD k DZ) ∧ SecP (ds.getD k DZ) := ⟨hq, .inr (by omega)⟩
       rw [if_pos hy2, decide_eq_true hy2, if_neg hlt, if_neg hlt]; rfl
     exact .dn [] [cGrp z.γ, Res.mod z.γ.px z.γ.P, Res.mod z.γ.pq z.γ.Q] (res2 rfl (.cl agg_40) (.tmp rfl)) ⟨hfin, rfl, rfl⟩
    refine JA.alt rfl ?_ ?_
    ·refine .mw rfl (Mv.alloc zero_40) ?_
     rintro _ _ _ ⟨b10, rfl, rfl, rfl⟩
     refine kp ?_
     refine .mw rfl (.c (f70_spec z.γ hS (ds.getD k DZ).cv vl (ds.getD k DZ).com hdk.com hq.2 (p.map fun e => (e.1, e.2.1)) hra.1 hra.2.1 (by rw [hra.2.2]; omega)) body_70) ?_
     rintro _ _ _ ⟨rfl, rfl, rfl⟩
     rw [hra.2.2]
     refine kp ?_
     refine .uw rfl (.move rfl) (.uw rfl (.extract rfl rfl) (.uw rfl (.extract rfl rfl) ?_))
     refine .mw0 rfl (.sa sz_40) ?_
     rintro _ _ _ ⟨rfl, rfl⟩
     refine kp ?_
     refine .uw rfl (.assign rfl) ?_
     refine .nil (.tn (.seq (.region ?_)))
     refine .w (.lda agg_40 rfl) (.w (.move rfl) (.w (.bin rfl rfl BinR.eql_i) (.sa sz_40 ?_)))
     refine .w (.assign rfl) ?_
     refine .nil (.tn (.ret ?_))
     have hfin : (Value.tuple #[.agg ((wd (if (ds.getD k DZ).pieces.es.length < (ds.getD k DZ).com.length then 0 else lgN z.γ ((ds.getD k DZ).com.getD 0 0))).map u64).toArray, .bool (decide ((if (ds.getD k DZ).pieces.es.length < (ds.getD k DZ).com.length then (3 : Int) else 0) = 0))]) = .tuple #[.agg ((wd (if QualP z.own (ds.getD k DZ) ∧ SecP (ds.getD k DZ) then secN z.γ (ds.getD k DZ) else 0)).map u64).toArray, .bool (decide (QualP z.own (ds.getD k DZ) ∧ SecP (ds.getD k DZ)))] := by
      by_cases hlt : (ds.getD k DZ).pieces.es.length < (ds.getD k DZ).com.length
      ·have hn2 : ¬ (QualP z.own (ds.getD k DZ) ∧ SecP (ds.getD k DZ)) := fun h => h.2.elim hrev (fun h => by omega)
       rw [if_neg hn2, decide_eq_false hn2, if_pos hlt, if_pos hlt]; rfl
      ·have hy2 : QualP z.own (ds.getD k DZ) ∧ SecP (ds.getD k DZ) := ⟨hq, .inr (by omega)⟩
       rw [if_pos hy2, decide_eq_true hy2, if_neg hlt, if_neg hlt]; rfl
     exact .dn [] [cGrp z.γ, Res.mod z.γ.px z.γ.P, Res.mod z.γ.pq z.γ.Q] (res2 rfl (.cl agg_40) (.tmp rfl)) ⟨hfin, rfl, rfl⟩
    exact JA.nil
   ·intro e he hnp hw2
    have hwl := walk_few hw2 hdk.pieces
    rw [List.length_append, List.length_singleton] at hwl
    refine .w (.extract rfl rfl) ?_
    refine .nil (.tn (.seq ?_))
    refine .ct rfl ?_
    refine .skip (.tn (.block (.seq (.region ?_))))
    refine .w (.en hdk.pieces he) (.w (.as (v' := it e.1) (.extract rfl rfl) rfl) (.w (.as (v' := .agg ((wd e.2.1.1).map u64).toArray) (.extract rfl rfl) (by rfl)) (.al zero_40 fun b9 => ?_)))
    refine .w (.assign rfl) (.sa sz_40 ?_)
    refine .nil (.tn (.region ?_))
    refine .w (.move rfl) (.w (.move rfl) (.w (.as (v' := .agg ((wd e.2.1.1).map u64).toArray) (.lda agg_40 rfl) (by rfl)) (.w (.build (cs := (piB ((e.1, e.2.1) : Int × N256))) bld_113 rfl (by kernel_rfl)) ?_)))
    refine .ls Tryz.underlying111 info_113 (fun v52 => ?_) (hsz := (by intro v hv; obtain rfl := List.mem_singleton.1 hv; rfl))
    refine .ap Tryz.underlying111 info_113 (fun v53 => ?_) (hone := (by intro v hv; rw [show (List.flatMap (fun v => v.cells.toList) [Value.agg (piB ((e.1, e.2.1) : Int × N256)).toArray]) = piB ((e.1, e.2.1) : Int × N256) from by simp] at hv; exact FS.one (f := piB) _ _ hv))
    rw [show bks piB (p.map fun e => (e.1, e.2.1)) ++ List.flatMap (fun v => v.cells.toList) [Value.agg (piB ((e.1, e.2.1) : Int × N256)).toArray] = bks piB ((p ++ [e]).map fun e => (e.1, e.2.1)) from by rw [List.map_append, bks_app]; simp [bks], show p.length + 1 = (p ++ [e]).length from by rw [List.length_append, List.length_singleton]]
    refine .w (.assign rfl) ?_
    refine .nil (.block_normal ?_)
    refine .hd (p ++ [e], v53) ?_
    exact ⟨hw2, by dsimp only; rw [List.length_append, List.length_singleton]; omega⟩

theorem f67_spec (z : ES) (ds : List DL) (hps : ds.map (·.p) = z.ps) (h40 : z.ps.length ≤ 40) (hS : SmG z.γ) (hds : ∀ d ∈ ds, DOk d) (hdr : AllR z.γ ds) :
  Spec Tryz.prog 67 #[(ptr z.s 0)] [Res.cells z.s (stC z) 100, Res.rd z.sv z.S.length 1 (z.S.map u64), Res.rd z.cv z.cnt.length 1 (z.cnt.map it), Res.rd z.ov z.own.length 1 (z.own.map it), Res.rd z.av z.ps.length 1 (z.ps.map fun p => ptr p 0), Res.sep (ds.map dR), Res.var 2 ((wd 1).map u64)] [cGrp z.γ, Res.mod z.γ.px z.γ.P, Res.mod z.γ.pq z.γ.Q]
   (fun r Γ' H' => ∃ v Z, Z = (if AllB z.own ds then secL z.γ z.own ds else []) ∧ r = .tuple #[v, .bool (decide (AllB z.own ds))] ∧ Γ' = [] ∧ H' = [Res.row v Z.length 40 4 (bks natC Z), cGrp z.γ, Res.mod z.γ.px z.γ.P, Res.mod z.γ.pq z.γ.Q]) := by
 refine Spec.of_args Tryz.func67 rfl Tryz.ntmps67 (by simp) fun w => ?_
 have hlen : z.ps.length = ds.length := by rw [← hps, List.length_map]
 refine .seq (.region ?_)
 refine .w (.assign rfl) (.w (.assign rfl) ?_)
 refine .nil (.tn (.seq (.region ?_)))
 refine JO.nilRow 40 4 ?_
 refine .w (.assign rfl) ?_
 refine .nil (.tn (.seq (.seq (.region ?_))))
 refine .w (.move rfl) (.cb (f14_spec z ds hps h40) body_14 ?_ (h0 := by rintro _ _ _ ⟨_, _, h, _⟩; exact h))
 rintro v10 _ ⟨_, rfl, _, rfl⟩
 refine .ap ?_
 have hq40 := qual_len z.own ds ds.length
 obtain ⟨ql, hql⟩ : ∃ ql, ql = qualT z.own ds ds.length := ⟨_, rfl⟩
 rw [← hql] at hq40 ⊢
 refine .w (.len Tryz.underlying37 rfl) (.w (.move rfl) ?_)
 refine .nil (.tn (.block ?_))
 refine .lp (ι := Nat × Value) (fun x => x.1 ≤ ql.length ∧ ∀ i, i < x.1 → SecP (ds.getD (ql.getD i 0).toNat DZ)) (fun T x => (12, it (x.1 : Int)) :: (4, x.2) :: T) (fun T _ => T) (fun T x => Res.row x.2 x.1 40 4 (bks natC ((ql.take x.1).map fun x : Int => secN z.γ (ds.getD x.toNat DZ))) :: T) (fun x => ql.length - x.1) (0, .slice none 0 0) [0, 10, 11, 29] ?_ (fun x hx => ?_)
 ·exact ⟨Nat.zero_le _, fun i hi => absurd hi (Nat.not_lt_zero _)⟩
 obtain ⟨k, vo⟩ := x
 obtain ⟨hk, hall⟩ := hx
 dsimp only at hk hall ⊢
 refine .seq (.region ?_)
 refine .w (.bin rfl rfl BinR.lss_i) ?_
 refine .nil (.tn (.seq ?_))
 refine .cn rfl (fun hc1 => ?_) (fun hc1 => ?_)
 ·have hmem : ql.getD k 0 ∈ qualT z.own ds ds.length := by rw [← hql]; exact getD_mem' 0 (by omega)
  obtain ⟨j, hj, hjd, hjq⟩ := qual_mem.1 hmem
  have hlt := secN_lt hS (ds.getD j DZ)
  refine .skip (.tn (.seq (.block (.seq (.region ?_)))))
  refine .w (.ix1 Tryz.underlying37 sz_3 rfl rfl) (.w (.as (v' := it (j : Int)) (.ld one_3 rfl (hj := by exact gm (d := 0) (by omega))) (congrArg it hj)) (.w (.assign rfl) ?_))
  refine .nil (.tn (.seq (.region ?_)))
  refine .w (.move rfl) (.w (.move rfl) (.c (f16_spec z ds hps h40 hS hds hdr j hjd) body_16 ?_))
  refine .w (.move rfl) (.w (.as (v' := .agg ((wd (if QualP z.own (ds.getD j DZ) ∧ SecP (ds.getD j DZ) then secN z.γ (ds.getD j DZ) else 0)).map u64).toArray) (.extract rfl rfl) rfl) (.w (.as (v' := .bool (decide (SecP (ds.getD j DZ)))) (.extract rfl rfl) (congrArg Value.bool (decide_eq_decide.2 ⟨fun h => h.2, fun h => ⟨hjq, h⟩⟩))) (.al zero_40 fun b7 => ?_)))
  refine .sa sz_40 ?_
  refine .w (.assign rfl) ?_
  refine .nil (.tn (.seq (.seq (.region ?_))))
  refine .w (.move rfl) (.w (.not rfl) ?_)
  refine .nil (.tn ?_)
  refine .cn rfl (fun hc2 => ?_) (fun hc2 => ?_)
  ·have hnj : ¬ SecP (ds.getD j DZ) := by simpa using hc2
   have hnA : ¬ AllB z.own ds := fun h => hnj (by have := h _ hmem; rw [hj] at this; exact this)
   refine .seq (.region ?_)
   refine JO.nilRow 40 4 ?_
   refine .w (.assign rfl) (.w (.assign rfl) ?_)
   refine .nil (.tn (.ret (.then_ret (.block_ret (.then_ret (.then_ret (.block_ret (.then_ret ?_))))))))
   exact .dn [] [Res.row (.slice none 0 0) ([] : List Nat).length 40 4 (bks natC ([] : List Nat)), cGrp z.γ, Res.mod z.γ.px z.γ.P, Res.mod z.γ.pq z.γ.Q] (res2 rfl (.tmp rfl) (.tmp rfl)) ⟨.slice none 0 0, [], (if_neg hnA).symm, by rw [decide_eq_false hnA], rfl, rfl⟩
  ·have hsj : SecP (ds.getD j DZ) := by simpa using hc2
   refine .skip (.tn (.region ?_))
   refine .w (.move rfl) (.w (.as (v' := .agg ((wd (secN z.γ (ds.getD j DZ))).map u64).toArray) (.lda agg_40 rfl) (congrArg (fun n => Value.agg (List.map u64 (wd n)).toArray) (if_pos (And.intro hjq hsj)))) ?_)
   refine .ls Tryz.underlying38 info_40 (fun v26 => ?_) (hsz := (by intro v hv; obtain rfl := List.mem_singleton.1 hv; rfl))
   refine .ap Tryz.underlying38 info_40 (fun v27 => ?_) (hone := (by intro v hv; rw [show (List.flatMap (fun v => v.cells.toList) [Value.agg (List.map u64 (wd (secN z.γ (ds.getD j DZ)))).toArray]) = natC (secN z.γ (ds.getD j DZ)) from by simp [natC]] at hv; exact FS.one (f := natC) _ _ hv))
   rw [show bks natC ((ql.take k).map fun x : Int => secN z.γ (ds.getD x.toNat DZ)) ++ List.flatMap (fun v => v.cells.toList) [Value.agg (List.map u64 (wd (secN z.γ (ds.getD j DZ)))).toArray] = bks natC ((ql.take (k + 1)).map fun x : Int => secN z.γ (ds.getD x.toNat DZ)) from by
    rw [take_snoc 0 (show k < ql.length by omega), List.map_append, bks_app, hj]
    rfl]
   refine .w (.assign rfl) ?_
   refine .nil (.block_normal (.tn (.region ?_)))
   refine .w (.asI ((k + 1 : Nat) : Int) (.bin rfl rfl (BinR.add_i zq3))) (.w (.move rfl) (.nil ?_))
   refine .hd (k + 1, v27) ?_
   exact ⟨⟨by dsimp only; omega, fun i hi => by rcases Nat.lt_succ_iff_lt_or_eq.1 hi with h | rfl; exact hall i h; rw [hj]; exact hsj⟩, by dsimp only; omega⟩
 ·obtain rfl : k = ql.length := by omega
  have hA : AllB z.own ds := fun x hx => by
   rw [← hql] at hx
   obtain ⟨i, hi, rfl⟩ := List.getElem_of_mem hx
   have := hall i hi
   rwa [show ql.getD i 0 = ql[i] from by rw [List.getD_eq_getElem?_getD, List.getElem?_eq_getElem hi]; rfl] at this
  rw [show Res.row vo ql.length 40 4 (bks natC ((ql.take ql.length).map fun x : Int => secN z.γ (ds.getD x.toNat DZ))) = Res.row vo (secL z.γ z.own ds).length 40 4 (bks natC (secL z.γ z.own ds)) from by rw [List.take_length, secL, ← hql, List.length_map]]
  refine .exit (.then_exit (.then_exit (.block_exit (.tn (.seq (.region ?_))))))
  refine .w (.move rfl) (.w (.assign rfl) (.w (.assign rfl) ?_))
  refine .nil (.tn (.ret ?_))
  exact .dn [] [Res.row vo (secL z.γ z.own ds).length 40 4 (bks natC (secL z.γ z.own ds)), cGrp z.γ, Res.mod z.γ.px z.γ.P, Res.mod z.γ.pq z.γ.Q] (res2 rfl (.tmp rfl) (.tmp rfl)) ⟨vo, _, (if_pos hA).symm, by rw [decide_eq_true hA], rfl, rfl⟩

theorem f15_spec (z : ES) (ds : List DL) (hps : ds.map (·.p) = z.ps) (h40 : z.ps.length ≤ 40) (hS : SmG z.γ) (hds : ∀ d ∈ ds, DOk d) (hdr : AllR z.γ ds) :
  Spec Tryz.prog 15 #[(ptr z.s 0)] [Res.cells z.s (stC z) 100, Res.rd z.sv z.S.length 1 (z.S.map u64), Res.rd z.cv z.cnt.length 1 (z.cnt.map it), Res.rd z.ov z.own.length 1 (z.own.map it), Res.rd z.av z.ps.length 1 (z.ps.map fun p => ptr p 0), Res.sep (ds.map dR), Res.var 2 ((wd 1).map u64), Res.var 5 (sqr.map u32), Res.var 4 (cub.map u32)] [cGrp z.γ, Res.mod z.γ.px z.γ.P, Res.mod z.γ.pq z.γ.Q]
   (fun r Γ' H' => r = .tuple #[dgV (seedR z ds), .bool (decide (AllB z.own ds))] ∧ Γ' = [] ∧ H' = [cGrp z.γ, Res.mod z.γ.px z.γ.P, Res.mod z.γ.pq z.γ.Q]) := by
 refine Spec.of_args Tryz.func15 rfl Tryz.ntmps15 (by simp) fun w => ?_
 have hγ := hS.ok
 have hlen : z.ps.length = ds.length := by rw [← hps, List.length_map]
 refine .seq (.region ?_)
 refine .al zero_35 fun b2 => ?_
 refine .w (.assign rfl) ?_
 refine .nil (.tn (.seq (.region ?_)))
 refine .w (.move rfl) (.cb (f67_spec z ds hps h40 hS hds hdr) body_67 ?_ (h0 := by rintro _ _ _ ⟨_, _, _, _, h, _⟩; exact h))
 rintro _ _ ⟨v9, Zs, hZ, rfl, _, rfl⟩
 refine .ap ?_
 refine JO.freeze (v := v9) zq12 (by decide) ?_
 refine .w (.move rfl) (.w (.as (v' := v9) (.extract rfl rfl) rfl) (.w (.as (v' := .bool (decide (AllB z.own ds))) (.extract rfl rfl) rfl) (.w (.assign rfl) (.w (.assign rfl) ?_))))
 refine .nil (.tn (.seq (.seq (.region ?_))))
 refine .w (.move rfl) (.w (.not rfl) ?_)
 refine .nil (.tn ?_)
 refine .cn rfl (fun hc1 => ?_) (fun hc1 => ?_)
 ·have hnA : ¬ AllB z.own ds := by simpa using hc1
  refine .seq (.region ?_)
  refine .w (.as (v' := dgV D0) (.build bld_35 rfl rfl) (by rfl)) (.sa sz_35 ?_)
  refine .w (.assign rfl) ?_
  refine .nil (.tn (.ret (.then_ret ?_)))
  exact .dn [] [cGrp z.γ, Res.mod z.γ.px z.γ.P, Res.mod z.γ.pq z.γ.Q] (res2 rfl (.cl agg_35) (.tmp rfl)) ⟨by rw [decide_eq_false hnA, seedR, if_neg hnA], rfl, rfl⟩
 ·have hA : AllB z.own ds := by simpa using hc1
  rw [if_pos hA] at hZ
  subst hZ
  refine .skip (.tn (.seq ?_))
  refine JC.draw (.one 0 (.one 1 (.one 2 (.one 3 (.one 4 (.one 5 (.one 6 (.one 7 (.one 8 (.one 9 (.one 10 (.one 11 (.one 13 (.one 15 (.one 12 (.one 14 (.one 16 (.one 17 (.one 18 (.one 19 .nil)))))))))))))))))))) (fun i => ([17, 18] : List Nat).contains i) (fun i => ([12, 14, 16, 17, 18] : List Nat).contains i) (fun i => ([0, 1, 2, 4, 5, 6, 8, 9, 10, 13, 15, 19] : List Nat).contains i) mixed (by kernel_rfl) (by decide) (by kernel_rfl) ?_
  refine .uw rfl (.move rfl) (.uw rfl (.nilCheck rfl) (.uw rfl (.fieldAddr fa_100_3 rfl) (.w rfl (.as (v' := u64 z.num) (.ld one_22 rfl) (by rfl)) (.uw rfl (.move rfl) (.uw rfl (.nilCheck rfl) (.uw rfl (.fieldAddr fa_100_4 rfl) ?_))))))
  refine .w rfl (.as (v' := dgV z.prev) (.lda agg_35 rfl) (by exact congrArg (fun l : List Value => Value.agg l.toArray) (show ((stC z).drop 10).take 32 = z.prev.1.map u8 from prevC_eq z.prev))) (.uw rfl (.move rfl) (.uw rfl (.nilCheck rfl) (.uw rfl (.fieldAddr fa_100_0 rfl) (.w rfl (.as (v' := ptr z.γ.g 0) (.ld one_28 rfl) (by rfl)) (.uw rfl (.move rfl) (.uw rfl (.move rfl) ?_))))))
  refine .mw rfl (.c (f53_spec z.γ) body_53) ?_
  rintro _ _ _ ⟨rfl, rfl, rfl⟩
  refine kp ?_
  refine .mw rfl (.c (f69_spec z.γ.pq z.γ.Q hγ.qb hγ.q1 v9 (secL z.γ z.own ds) (secL_lt hS _ _)) body_69) ?_
  rintro _ _ _ ⟨rfl, rfl, rfl⟩
  refine kp ?_
  refine .mw rfl (.cb (f14_spec z ds hps h40) body_14 (h0 := by rintro _ _ _ ⟨_, _, h, _⟩; exact h)) ?_
  rintro v30 _ _ ⟨_, ⟨_, rfl, _, rfl⟩, hΓ, hH⟩
  simp only [List.cons_append, List.nil_append] at hH; subst hΓ hH
  refine kp ?_
  refine .mw rfl (.c (f68_spec z.num z.prev (sumK z.γ.Q (secL z.γ z.own ds) (secL z.γ z.own ds).length) (Nat.lt_trans (sumK_lt (by have := hγ.q1; omega) _ _) hγ.qb) v30 (qualT z.own ds ds.length) (by have := qual_len z.own ds ds.length; omega)) body_68) ?_
  rintro _ _ _ ⟨rfl, rfl, rfl⟩
  refine kp ?_
  refine .mw0 rfl (.sa sz_35) ?_
  rintro _ _ _ ⟨rfl, rfl⟩
  refine kp ?_
  refine .uw rfl (.assign rfl) ?_
  refine .nil (.tn (.ret ?_))
  exact .dn [] [cGrp z.γ, Res.mod z.γ.px z.γ.P, Res.mod z.γ.pq z.γ.Q] (res2 rfl (.cl agg_35) (.tmp rfl)) ⟨by rw [decide_eq_true hA, seedR, if_pos hA], rfl, rfl⟩
theorem f16R_spec (z : ES) (ds : List DL) (hps : ds.map (·.p) = z.ps) (h40 : z.ps.length ≤ 40) (hR : ∀ k, k < ds.length → QualP z.own (ds.getD k DZ) → (ds.getD k DZ).rev = true) (hd : ∀ d ∈ ds, DOk d) (k : Nat) (hkd : k < ds.length) :
  Spec Tryz.prog 16 #[(ptr z.s 0), (it (k : Int))] [Res.cells z.s (stC z) 100, Res.rd z.sv z.S.length 1 (z.S.map u64), Res.rd z.cv z.cnt.length 1 (z.cnt.map it), Res.rd z.ov z.own.length 1 (z.own.map it), Res.rd z.av z.ps.length 1 (z.ps.map fun p => ptr p 0), Res.sep (ds.map dR)] []
   (fun r Γ' H' => r = (.tuple #[.agg ((wd (if QualP z.own (ds.getD k DZ) then (ds.getD k DZ).sec else 0)).map u64).toArray, .bool (decide (QualP z.own (ds.getD k DZ)))]) ∧ Γ' = [] ∧ H' = []) := by
 refine Spec.of_args Tryz.func16 rfl Tryz.ntmps16 (by simp) fun w => ?_
 have hlen : z.ps.length = ds.length := by rw [← hps, List.length_map]
 have hpk := (ps_get hps (k := k) (by omega)).1
 refine JC.know (φ := z.ps.length ≤ 9223372036854775807) (fun w hs => by obtain ⟨_, _, _, _, _, _, h⟩ := hs.rdForm (.tail _ (.tail _ (.tail _ (.tail _ (.head _))))); unfold maxLen at h; omega) fun hll => ?_
 refine JC.dlr (ds := ds) (ds.getD k DZ) (ds_mem hkd) ?_
 refine .seq (.region ?_)
 refine .al zero_40 fun b4 => ?_
 refine .w (.assign rfl) ?_
 refine .nil (.tn (.seq (.seq (.region ?_))))
 refine .w (.move rfl) (.w (.move rfl) (.c (f63_spec z (k : Int)) body_63 ?_))
 refine .w (.as (v' := .bool false) (.not rfl) (congrArg Value.bool (by rw [decide_eq_true (show 0 ≤ (k : Int) ∧ (k : Int) < (z.ps.length : Int) by omega)]; rfl))) (.w (.move rfl) ?_)
 refine .gt (g := 16) rfl rfl rfl ?_
 refine .w (.move rfl) ?_
 refine .gt (g := 16) rfl rfl rfl ?_
 refine .w (.move rfl) ?_
 refine .gt (g := 16) rfl rfl rfl ?_
 refine .c (f66_spec z (ds.getD k DZ) k hpk) body_66 ?_
 refine .gt (g := 16) rfl rfl rfl ?_
 refine .w (.not rfl) (.w (.pick0 rfl rfl rfl) ?_)
 refine .nil (.tn ?_)
 refine .cn rfl (fun hc1 => ?_) (fun hc1 => ?_)
 ·have hq : ¬ QualP z.own (ds.getD k DZ) := by simpa using hc1
  refine .seq (.region ?_)
  refine .w (.build bld_40 rfl rfl) (.sa sz_40 ?_)
  refine .w (.assign rfl) ?_
  refine .nil (.tn (.ret (.then_ret ?_)))
  exact .dn [] [] (res2 rfl (.cl agg_40) (.tmp rfl)) ⟨by rw [if_neg hq, decide_eq_false hq]; rfl, rfl, rfl⟩
 ·have hq : QualP z.own (ds.getD k DZ) := by simpa using hc1
  refine .skip (.tn (.seq (.region ?_)))
  refine .w (.move rfl) (.w (.nilCheck rfl) (.w (.fieldAddr fa_100_7 rfl) (.w (.ld one_98 rfl) (.w (.move rfl) (.w (.ix1 Tryz.underlying98 sz_101 rfl rfl) (.w (.ld one_101 rfl (hj := by exact ps_at hpk)) ?_))))))
  refine .w (.assign rfl) ?_
  refine .nil (.tn (.seq (.seq (.region ?_))))
  refine .w (.move rfl) (.w (.nilCheck rfl) (.w (.fieldAddr fa_105_8 rfl) (.w (.as (v' := .bool true) (.ld one_4 rfl) (congrArg Value.bool (hR k hkd hq))) ?_)))
  refine .nil (.tn ?_)
  refine .ct rfl ?_
  refine .seq (.region ?_)
  refine .w (.move rfl) (.w (.nilCheck rfl) (.w (.fieldAddr fa_105_7 rfl) (.w (.as (v' := .agg ((wd (ds.getD k DZ).sec).map u64).toArray) (.lda agg_40 rfl) (by rfl)) (.sa sz_40 ?_))))
  refine .w (.assign rfl) ?_
  refine .nil (.tn (.ret (.then_ret ?_)))
  exact .dn [] [] (res2 rfl (.cl agg_40) (.tmp rfl)) ⟨by rw [if_pos hq, decide_eq_true hq], rfl, rfl⟩

theorem f67R_spec (z : ES) (ds : List DL) (hps : ds.map (·.p) = z.ps) (h40 : z.ps.length ≤ 40) (hR : ∀ k, k < ds.length → QualP z.own (ds.getD k DZ) → (ds.getD k DZ).rev = true) (hd : ∀ d ∈ ds, DOk d) :
  Spec Tryz.prog 67 #[(ptr z.s 0)] [Res.cells z.s (stC z) 100, Res.rd z.sv z.S.length 1 (z.S.map u64), Res.rd z.cv z.cnt.length 1 (z.cnt.map it), Res.rd z.ov z.own.length 1 (z.own.map it), Res.rd z.av z.ps.length 1 (z.ps.map fun p => ptr p 0), Res.sep (ds.map dR)] []
   (fun r Γ' H' => ∃ v ql, ql = qualT z.own ds ds.length ∧ r = .tuple #[v, .bool true] ∧ Γ' = [] ∧ H' = [Res.row v ql.length 40 4 (bks natC ((ql.take ql.length).map fun x : Int => (ds.getD x.toNat DZ).sec))]) := by
 refine Spec.of_args Tryz.func67 rfl Tryz.ntmps67 (by simp) fun w => ?_
 have hlen : z.ps.length = ds.length := by rw [← hps, List.length_map]
 refine .seq (.region ?_)
 refine .w (.assign rfl) (.w (.assign rfl) ?_)
 refine .nil (.tn (.seq (.region ?_)))
 refine JO.nilRow 40 4 ?_
 refine .w (.assign rfl) ?_
 refine .nil (.tn (.seq (.seq (.region ?_))))
 refine .w (.move rfl) (.cb (f14_spec z ds hps h40) body_14 ?_ (h0 := by rintro _ _ _ ⟨_, _, h, _⟩; exact h))
 rintro v10 _ ⟨_, rfl, _, rfl⟩
 refine .ap ?_
 have hq40 := qual_len z.own ds ds.length
 obtain ⟨ql, hql⟩ : ∃ ql, ql = qualT z.own ds ds.length := ⟨_, rfl⟩
 rw [← hql] at hq40 ⊢
 refine .w (.len Tryz.underlying37 rfl) (.w (.move rfl) ?_)
 refine .nil (.tn (.block ?_))
 refine .lp (ι := Nat × Value) (fun x => x.1 ≤ ql.length) (fun T x => (12, it (x.1 : Int)) :: (4, x.2) :: T) (fun T _ => T) (fun T x => Res.row x.2 x.1 40 4 (bks natC ((ql.take x.1).map fun x : Int => (ds.getD x.toNat DZ).sec)) :: T) (fun x => ql.length - x.1) (0, .slice none 0 0) [0, 10, 11, 29] ?_ (fun x hx => ?_)
 ·exact Nat.zero_le _
 obtain ⟨k, vo⟩ := x
 have hk := hx
 dsimp only at hk ⊢
 refine .seq (.region ?_)
 refine .w (.bin rfl rfl BinR.lss_i) ?_
 refine .nil (.tn (.seq ?_))
 refine .cn rfl (fun hc1 => ?_) (fun hc1 => ?_)
 ·obtain ⟨j, hj, hjd, hjq⟩ := qual_mem.1 (show ql.getD k 0 ∈ qualT z.own ds ds.length by rw [← hql, List.getD_eq_getElem?_getD, List.getElem?_eq_getElem (show k < ql.length by omega)]; exact List.getElem_mem _)
  have hlt : (ds.getD j DZ).sec < 115792089237316195423570985008687907853269984665640564039457584007913129639936 := (hd _ (ds_mem hjd)).sec
  refine .skip (.tn (.seq (.block (.seq (.region ?_)))))
  refine .w (.ix1 Tryz.underlying37 sz_3 rfl rfl) (.w (.as (v' := it (j : Int)) (.ld one_3 rfl (hj := by exact gm (d := 0) (by omega))) (congrArg it hj)) (.w (.assign rfl) ?_))
  refine .nil (.tn (.seq (.region ?_)))
  refine .w (.move rfl) (.w (.move rfl) (.c (f16R_spec z ds hps h40 hR hd j hjd) body_16 ?_))
  refine .w (.move rfl) (.w (.as (v' := .agg ((wd (ds.getD j DZ).sec).map u64).toArray) (.extract rfl rfl) (congrArg (fun n => Value.agg (List.map u64 (wd n)).toArray) (if_pos hjq))) (.w (.as (v' := .bool true) (.extract rfl rfl) (congrArg Value.bool (decide_eq_true hjq))) (.al zero_40 fun b7 => ?_)))
  refine .sa sz_40 ?_
  refine .w (.assign rfl) ?_
  refine .nil (.tn (.seq (.seq (.region ?_))))
  refine .w (.move rfl) (.w (.as (v' := .bool false) (.not rfl) rfl) ?_)
  refine .nil (.tn ?_)
  refine .cf rfl ?_
  refine .skip (.tn (.region ?_))
  refine .w (.move rfl) (.w (.as (v' := .agg ((wd (ds.getD j DZ).sec).map u64).toArray) (.lda agg_40 rfl) (by rfl)) ?_)
  refine .ls Tryz.underlying38 info_40 (fun v26 => ?_) (hsz := (by intro v hv; obtain rfl := List.mem_singleton.1 hv; rfl))
  refine .ap Tryz.underlying38 info_40 (fun v27 => ?_) (hone := (by intro v hv; rw [show (List.flatMap (fun v => v.cells.toList) [Value.agg (List.map u64 (wd (ds.getD j DZ).sec)).toArray]) = natC (ds.getD j DZ).sec from by simp [natC]] at hv; exact FS.one (f := natC) _ _ hv))
  rw [show bks natC ((ql.take k).map fun x : Int => (ds.getD x.toNat DZ).sec) ++ List.flatMap (fun v => v.cells.toList) [Value.agg (List.map u64 (wd (ds.getD j DZ).sec)).toArray] = bks natC ((ql.take (k + 1)).map fun x : Int => (ds.getD x.toNat DZ).sec) from by
   rw [List.take_add_one, List.getElem?_eq_getElem (show k < ql.length by omega), Option.toList_some, List.map_append, bks_app]
   have e : ql[k]'(by omega) = (j : Int) := by rw [← hj, List.getD_eq_getElem?_getD, List.getElem?_eq_getElem (show k < ql.length by omega)]; rfl
   rw [e]
   rfl]
  refine .w (.assign rfl) ?_
  refine .nil (.block_normal (.tn (.region ?_)))
  refine .w (.asI ((k + 1 : Nat) : Int) (.bin rfl rfl (BinR.add_i zq3))) (.w (.move rfl) (.nil ?_))
  refine .hd (k + 1, v27) ?_
  exact ⟨by dsimp only; omega, by dsimp only; omega⟩
 ·obtain rfl : k = ql.length := by omega
  refine .exit (.then_exit (.then_exit (.block_exit (.tn (.seq (.region ?_))))))
  refine .w (.move rfl) (.w (.assign rfl) (.w (.assign rfl) ?_))
  refine .nil (.tn (.ret ?_))
  exact .dn [] [Res.row vo ql.length 40 4 (bks natC ((ql.take ql.length).map fun x : Int => (ds.getD x.toNat DZ).sec))] (res2 rfl (.tmp rfl) (.tmp rfl)) ⟨vo, ql, rfl, rfl, rfl, rfl⟩

theorem f24R_spec (z : ES) (ds : List DL) (hps : ds.map (·.p) = z.ps) (h40 : z.ps.length ≤ 40) (hR : ∀ k, k < ds.length → QualP z.own (ds.getD k DZ) → (ds.getD k DZ).rev = true) (hd : ∀ d ∈ ds, DOk d) (hw : ∀ n ∈ winL z.cfg, 1 ≤ n ∧ n ≤ 50) (a : Int) (ham : a ≤ 9223372036854775807) :
  Spec Tryz.prog 24 #[(ptr z.s 0), (it a)] [Res.cells z.s (stC z) 100, Res.rd z.sv z.S.length 1 (z.S.map u64), Res.rd z.cv z.cnt.length 1 (z.cnt.map it), Res.rd z.ov z.own.length 1 (z.own.map it), Res.rd z.av z.ps.length 1 (z.ps.map fun p => ptr p 0), Res.sep (ds.map dR)] []
   (fun r Γ' H' => r = (.bool (decide (phaseF z.cfg a = 5))) ∧ Γ' = [] ∧ H' = []) := by
 refine Spec.of_args Tryz.func24 rfl Tryz.ntmps24 (by simp) fun w => ?_
 refine .seq (.region ?_)
 refine .w (.assign rfl) ?_
 refine .nil (.tn (.seq (.region ?_)))
 refine .w (.move rfl) (.cb (f67R_spec z ds hps h40 hR hd) body_67 ?_ (h0 := by rintro _ _ _ ⟨_, _, _, _, h, _⟩; exact h))
 rintro _ _ ⟨v9, ql, hql, rfl, _, rfl⟩
 refine .ap ?_
 refine .w (.move rfl) (.w (.extract rfl rfl) (.w (.extract rfl rfl) (.w (.assign rfl) (.w (.assign rfl) ?_))))
 refine .nil (.tn (.seq (.region ?_)))
 refine .w (.move rfl) (.w (.move rfl) ?_)
 refine .gt (g := 13) rfl rfl rfl ?_
 refine .w (.move rfl) ?_
 refine .gt (g := 13) rfl rfl rfl ?_
 refine .w (.move rfl) ?_
 refine .gt (g := 13) rfl rfl rfl ?_
 refine .c (f29_spec z hw a ham) body_29 ?_
 refine .gt (g := 13) rfl rfl rfl ?_
 refine .w (.bin rfl rfl BinR.eql_i) (.w (.pick1 rfl rfl rfl) (.w (.assign rfl) ?_))
 refine .nil (.tn (.ret ?_))
 exact .dn [] [] (res1 rfl (.tmp rfl)) ⟨rfl, rfl, rfl⟩
theorem f57_spec (v : Value) (n : Nat) (xs : List Value) (hn : n ≤ 1000000000) (h1 : ∀ a ∈ xs, a.oneCell' = true) :
  Spec Tryz.prog 57 #[v] [Res.rd v n 1 xs] []
   (fun r Γ' H' => True ∧ Γ' = [] ∧ H' = [Res.row r n 22 1 xs]) := by
 refine Spec.know (φ := ∃ A c, v = .slice A n c ∧ (A = none → xs = []) ∧ xs.length = n * 1 ∧ n ≤ c ∧ n ≤ maxLen) (fun w hs => hs.rdForm (.head _)) ?_
 rintro ⟨A, c, rfl, hA, hl, hc, hm⟩
 refine Spec.of_args Tryz.func57 rfl Tryz.ntmps57 (by simp) fun w => ?_
 refine .seq (.region ?_)
 refine .w (.assign rfl) ?_
 refine .nil (.tn (.seq (.seq (.region ?_))))
 refine .w (.move rfl) (.w (.bin rfl rfl (BinR.eql_s Tryz.underlying25)) ?_)
 refine .nil (.tn ?_)
 refine .cn rfl (fun hc1 => ?_) (fun hc1 => ?_)
 ·have hA0 : A = none := by cases A <;> simp_all
  have hx := hA hA0
  have hn0 : n = 0 := by rw [hx] at hl; simp only [List.length_nil] at hl; omega
  subst hx hn0
  refine .seq (.region ?_)
  refine JO.nilRow 22 1 ?_
  refine JO.v (Yv.assign rfl) (by decide) ?_
  refine .nil (.tn (.ret (.then_ret ?_)))
  exact .dn [] [Res.row (.slice none 0 0) 0 22 1 []] (res1 rfl (.tmp rfl)) ⟨trivial, rfl, rfl⟩
 ·refine .skip (.tn (.seq (.region ?_)))
  refine .le Tryz.underlying25 sz_22 fun v5 => ?_
  refine .w (.move rfl) ?_
  refine .ap Tryz.underlying25 info_22 (fun v7 => ?_) (hone := h1)
  refine .w (.assign rfl) ?_
  refine .nil (.tn (.ret ?_))
  exact .dn [] [Res.row _ (0 + n) 22 1 ([] ++ xs)] (res1 rfl (.tmp rfl)) ⟨trivial, rfl, by rw [Nat.zero_add, List.nil_append]⟩

theorem f11b_spec (γ : GP) (hγ : GOk γ) (c : Cfg) (lv : Value) (S : List W64) (num : W64) (prev : D32) (hE : newE γ c S ≠ 0) :
  Spec Tryz.prog 11 #[(ptr γ.g 0), (.agg (cfgC c).toArray), lv, (u64 num), (.agg (prevC prev).toArray)] [Res.rd lv S.length 1 (S.map u64)] [cGrp γ, Res.mod γ.px γ.P, Res.mod γ.pq γ.Q]
   (fun r Γ' H' => r = (.tuple #[.pointer none, it (newE γ c S)]) ∧ Γ' = [] ∧ H' = [cGrp γ, Res.mod γ.px γ.P, Res.mod γ.pq γ.Q]) := by
 refine Spec.of_args Tryz.func11 rfl Tryz.ntmps11 (by simp) fun w => ?_
 refine .seq (.region ?_)
 refine .bx fun b6 => ?_
 refine .bx fun b9 => ?_
 refine .w (.assign rfl) (.w (.assign rfl) ?_)
 refine .nil (.tn (.seq (.seq (.region ?_))))
 refine .w (.as (v' := .agg (cfgC c).toArray) (.lda agg_24 rfl) (by rfl)) (.c (f48_spec c) body_48 ?_)
 refine .w (.assign rfl) ?_
 refine .nil (.tn (.seq (.region ?_)))
 refine .w (.move rfl) (.w (.bin rfl rfl BinR.neq_i) ?_)
 refine .nil (.tn ?_)
 refine .cn rfl (fun hc1 => ?_) (fun hc1 => ?_)
 ·have he : newE γ c S = 1 := if_pos hc1
  have h1 : checkE c = 1 := (check_01 c).resolve_left hc1
  refine .seq (.region ?_)
  refine .w (.move rfl) (.w (.assign rfl) (.w (.assign rfl) ?_))
  refine .nil (.tn (.ret (.then_ret ?_)))
  exact .dn [] [cGrp γ, Res.mod γ.px γ.P, Res.mod γ.pq γ.Q] (res2 rfl (.tmp rfl) (.tmp rfl)) ⟨by rw [he, h1], rfl, rfl⟩
 ·have h0 : checkE c = 0 := by omega
  obtain ⟨a1, a2, a3, a4, a5⟩ := check_0 h0
  obtain ⟨m, hm⟩ : ∃ m : Nat, c.Slots = (m : Int) := ⟨c.Slots.toNat, by omega⟩
  have hmt : c.Slots.toNat = m := by omega
  refine .skip (.tn (.seq (.seq ?_)))
  refine JC.draw (.one 0 (.one 1 (.one 2 (.one 3 (.one 4 (.one 5 (.one 6 (.one 7 (.one 8 .nil))))))))) (fun i => ([7] : List Nat).contains i) (fun i => ([5, 6, 7] : List Nat).contains i) (fun i => ([0, 2, 3, 4, 8] : List Nat).contains i) mixed (by kernel_rfl) (by decide) (by kernel_rfl) ?_
  refine .uw rfl (.fieldAddr fa_24_1 rfl) (.w rfl (.as (v' := it (m : Int)) (.ld one_3 rfl) (congrArg it hm)) (.uw rfl (.as (v' := u64 (BitVec.ofNat 64 m)) (.conv_i_u64 Tryz.underlying3 Tryz.underlying22 rfl) (congrArg u64 (BitVec.ofInt_natCast _ _))) (.uw rfl (.as (v' := .agg ((wd c.Slots.toNat).map u64).toArray) (.build bld_40 rfl rfl) (by rw [hmt, wd_lt64 (by omega)]; rfl)) (.uw rfl (.move rfl) ?_))))
  refine .mw rfl (.c (f53_spec γ) body_53) ?_
  rintro _ _ _ ⟨rfl, rfl, rfl⟩
  refine kp ?_
  refine .mw rfl (.c (f54_spec γ.pq γ.Q) body_54) ?_
  rintro _ _ _ ⟨rfl, rfl, rfl⟩
  refine kp ?_
  refine .mw rfl (.c (f52_spec c.Slots.toNat γ.Q (small_lt (by omega)) hγ.qb) body_52) ?_
  rintro _ _ _ ⟨rfl, rfl, rfl⟩
  refine kp ?_
  refine .uw rfl (.as (v' := .bool (decide (¬ c.Slots.toNat < γ.Q))) (.bin rfl rfl BinR.geq_i) (congrArg Value.bool (decide_eq_decide.2 ((cmp_ge _ _).trans Nat.not_lt.symm)))) ?_
  refine .nil (.tn ?_)
  refine .cn rfl (fun hc2 => ?_) (fun hc2 => ?_)
  ·have he : newE γ c S = 1 := by rw [newE, if_neg (fun h => h h0), if_pos hc2]
   refine .seq (.region ?_)
   refine .w (.assign rfl) (.w (.assign rfl) ?_)
   refine .nil (.tn (.ret (.then_ret ?_)))
   exact .dn [] [cGrp γ, Res.mod γ.px γ.P, Res.mod γ.pq γ.Q] (res2 rfl (.tmp rfl) (.tmp rfl)) ⟨by rw [he], rfl, rfl⟩
  ·have hlt : c.Slots.toNat < γ.Q := by omega
   have he : newE γ c S = shareE S c.Slots := by rw [newE, if_neg (fun h => h h0), if_neg (fun h => h hlt)]
   have hs : shareE S c.Slots ≠ 0 := by rw [← he]; exact hE
   refine .skip (.tn (.seq (.region ?_)))
   refine .w (.move rfl) (.w (.fieldAddr fa_24_1 rfl) (.w (.as (v' := it c.Slots) (.ld one_3 rfl) (by rfl)) (.c (f55b_spec lv S c.Slots hs) body_55 ?_)))
   refine .w (.move rfl) (.w (.extract rfl rfl) (.w (.as (v' := it (shareE S c.Slots)) (.extract rfl rfl) rfl) (.w (.assign rfl) (.w (.assign rfl) ?_))))
   refine .nil (.tn (.seq (.seq (.region ?_))))
   refine .w (.move rfl) (.w (.bin rfl rfl BinR.neq_i) ?_)
   refine .nil (.tn ?_)
   refine .cn rfl (fun hc3 => ?_) (fun hc3 => ?_)
   ·skip
    refine .seq (.region ?_)
    refine .w (.move rfl) (.w (.assign rfl) (.w (.assign rfl) ?_))
    refine .nil (.tn (.ret (.then_ret ?_)))
    exact .dn [] [cGrp γ, Res.mod γ.px γ.P, Res.mod γ.pq γ.Q] (res2 rfl (.tmp rfl) (.tmp rfl)) ⟨by rw [he], rfl, rfl⟩
   ·exact absurd hc3 hs

theorem f11a_spec (γ : GP) (hγ : GOk γ) (c : Cfg) (lv : Value) (S : List W64) (num : W64) (prev : D32) (hE : newE γ c S = 0) :
  Spec Tryz.prog 11 #[(ptr γ.g 0), (.agg (cfgC c).toArray), lv, (u64 num), (.agg (prevC prev).toArray)] [Res.rd lv S.length 1 (S.map u64)] [cGrp γ, Res.mod γ.px γ.P, Res.mod γ.pq γ.Q]
   (fun r Γ' H' => ∃ z ds, NewZ γ c S num prev z ds ∧ r = .tuple #[ptr z.s 0, it 0] ∧ Γ' = [] ∧ H' = [Res.cells z.s (stC z) 100, Res.row z.sv z.S.length 22 1 (z.S.map u64), Res.row z.cv z.cnt.length 3 1 (z.cnt.map it), Res.row z.ov z.own.length 3 1 (z.own.map it), Res.row z.av z.ps.length 101 1 (z.ps.map fun p => ptr p 0), Res.sep (ds.map dR), cGrp γ, Res.mod γ.px γ.P, Res.mod γ.pq γ.Q]) := by
 refine Spec.of_args Tryz.func11 rfl Tryz.ntmps11 (by simp) fun w => ?_
 obtain ⟨h0, hlt, hs, hl40, hT, hr⟩ := new_0 hE
 obtain ⟨a1, a2, a3, a4, a5⟩ := check_0 h0
 obtain ⟨m, hm⟩ : ∃ m : Nat, c.Slots = (m : Int) := ⟨c.Slots.toNat, by omega⟩
 have hmt : c.Slots.toNat = m := by omega
 refine .seq (.region ?_)
 refine .bx fun b6 => ?_
 refine .bx fun b9 => ?_
 refine .w (.assign rfl) (.w (.assign rfl) ?_)
 refine .nil (.tn (.seq (.seq (.region ?_))))
 refine .w (.as (v' := .agg (cfgC c).toArray) (.lda agg_24 rfl) (by rfl)) (.c (f48_spec c) body_48 ?_)
 rw [h0]
 refine .w (.assign rfl) ?_
 refine .nil (.tn (.seq (.region ?_)))
 refine .w (.move rfl) (.w (.as (v' := .bool false) (.bin rfl rfl BinR.neq_i) rfl) ?_)
 refine .nil (.tn ?_)
 refine .cf rfl ?_
 refine .skip (.tn (.seq (.seq ?_)))
 refine JC.draw (.one 0 (.one 1 (.one 2 (.one 3 (.one 4 (.one 5 (.one 6 (.one 7 (.one 8 .nil))))))))) (fun i => ([7] : List Nat).contains i) (fun i => ([5, 6, 7] : List Nat).contains i) (fun i => ([0, 2, 3, 4, 8] : List Nat).contains i) mixed (by kernel_rfl) (by decide) (by kernel_rfl) ?_
 refine .uw rfl (.fieldAddr fa_24_1 rfl) (.w rfl (.as (v' := it (m : Int)) (.ld one_3 rfl) (congrArg it hm)) (.uw rfl (.as (v' := u64 (BitVec.ofNat 64 m)) (.conv_i_u64 Tryz.underlying3 Tryz.underlying22 rfl) (congrArg u64 (BitVec.ofInt_natCast _ _))) (.uw rfl (.as (v' := .agg ((wd c.Slots.toNat).map u64).toArray) (.build bld_40 rfl rfl) (by rw [hmt, wd_lt64 (by omega)]; rfl)) (.uw rfl (.move rfl) ?_))))
 refine .mw rfl (.c (f53_spec γ) body_53) ?_
 rintro _ _ _ ⟨rfl, rfl, rfl⟩
 refine kp ?_
 refine .mw rfl (.c (f54_spec γ.pq γ.Q) body_54) ?_
 rintro _ _ _ ⟨rfl, rfl, rfl⟩
 refine kp ?_
 refine .mw rfl (.c (f52_spec c.Slots.toNat γ.Q (small_lt (by omega)) hγ.qb) body_52) ?_
 rintro _ _ _ ⟨rfl, rfl, rfl⟩
 refine kp ?_
 refine .uw rfl (.as (v' := .bool false) (.bin rfl rfl BinR.geq_i) (congrArg Value.bool (decide_eq_false (fun h => absurd hlt (Nat.not_lt.2 ((cmp_ge _ _).1 h)))))) ?_
 refine .nil (.tn ?_)
 refine .cf rfl ?_
 refine .skip (.tn (.seq (.region ?_)))
 refine .w (.move rfl) (.w (.fieldAddr fa_24_1 rfl) (.w (.as (v' := it c.Slots) (.ld one_3 rfl) (by rfl)) (.cb (f55a_spec lv S c.Slots hs) body_55 ?_ (h0 := by rintro _ _ _ ⟨_, _, h, _⟩; exact h))))
 rintro _ _ ⟨v32, rfl, _, rfl⟩
 refine .ap ?_
 refine JO.know (φ := ∃ (A : Option Addr) (n c : Nat), v32 = .slice A n c) (fun w hs => (by obtain ⟨A, c, h, _⟩ := row_rd (by decide) (Res.row_ok.1 (hs.hok _ (.head _))); exact ⟨A, _, c, h⟩)) fun hf32 => ?_
 refine .w (.move rfl) (.w (.as (v' := v32) (.extract rfl rfl) rfl) (.w (.as (v' := it 0) (.extract rfl rfl) rfl) (.w (.assign rfl) (.w (.assign rfl) ?_))))
 refine .nil (.tn (.seq (.seq (.region ?_))))
 refine .w (.move rfl) (.w (.as (v' := .bool false) (.bin rfl rfl BinR.neq_i) rfl) ?_)
 refine .nil (.tn ?_)
 refine .cf rfl ?_
 refine .skip (.tn (.seq (.region ?_)))
 refine .w (.move rfl) (.cb (f56a_spec v32 (shareL S c.Slots.toNat) hr) body_56 ?_ (h0 := by rintro _ _ _ ⟨_, _, h, _⟩; exact h))
 rintro _ _ ⟨v42, rfl, _, rfl⟩
 refine .ap ?_
 refine JO.know (φ := ∃ (A : Option Addr) (n c : Nat), v42 = .slice A n c) (fun w hs => (by obtain ⟨A, c, h, _⟩ := row_rd (by decide) (Res.row_ok.1 (hs.hok _ (.head _))); exact ⟨A, _, c, h⟩)) fun hf42 => ?_
 refine .w (.move rfl) (.w (.as (v' := v42) (.extract rfl rfl) rfl) (.w (.as (v' := it 0) (.extract rfl rfl) rfl) (.w (.assign rfl) (.w (.assign rfl) ?_))))
 refine .nil (.tn (.seq ?_))
 refine JC.draw (.one 0 (.one 1 (.one 2 (.one 4 (.one 5 (.one 6 (.one 7 (.one 3 (.one 8 (.one 9 (.one 10 .nil))))))))))) (fun i => ([9] : List Nat).contains i) (fun i => ([3, 9] : List Nat).contains i) (fun i => ([0, 2, 4, 6, 7, 8, 10] : List Nat).contains i) mixed (by kernel_rfl) (by decide) (by kernel_rfl) ?_
 refine .uw rfl (.move rfl) (.w rfl (.as (v' := .agg (cfgC c).toArray) (.lda agg_24 rfl) (by rfl)) (.uw rfl (.move rfl) (.uw rfl (.move rfl) (.w rfl (.as (v' := .agg (prevC prev).toArray) (.lda agg_35 rfl) (by rfl)) (.uw rfl (.move rfl) (.uw rfl (.move rfl) ?_))))))
 refine .mw rfl (.cb (f57_spec lv S.length (S.map u64) (by omega) (one_map fun _ => rfl)) body_57) ?_
 rintro v50 _ _ ⟨_, ⟨_, _, rfl⟩, hΓ, hH⟩
 simp only [List.cons_append, List.nil_append] at hH; subst hΓ hH
 refine kp ?_
 refine JR.know (φ := ∃ (A : Option Addr) (n c : Nat), v50 = .slice A n c) (fun w hs => (by obtain ⟨A, c, h, _⟩ := row_rd (by decide) (Res.row_ok.1 (hs.hok _ (.head _))); exact ⟨A, _, c, h⟩)) fun hf50 => ?_
 refine .uw rfl (.build (cs := (stC (zN γ c S num prev 0 v50 v32 v42 (.slice none 0 0) []))) bld_100 rfl (by obtain ⟨_, _, _, rfl⟩ := hf32; obtain ⟨_, _, _, rfl⟩ := hf42; obtain ⟨_, _, _, rfl⟩ := hf50; kernel_rfl)) ?_
 refine .mw rfl (Mv.box rfl) ?_
 rintro _ _ _ ⟨b56, rfl, rfl, rfl⟩
 refine kp ?_
 refine .uw rfl (.assign rfl) ?_
 refine .nil (.tn (.seq (.seq (.region ?_))))
 refine .w (.move rfl) (.w (.len Tryz.underlying25 rfl) ?_)
 refine JO.nilRow 101 1 ?_
 refine JO.sp0 ?_
 refine .w (.move rfl) ?_
 refine .nil (.tn (.block ?_))
 refine .lp (ι := Nat × Value × List DL) (fun x => x.1 ≤ S.length ∧ x.2.2.length = x.1 ∧ ∀ d ∈ x.2.2, Fresh d) (fun T x => (59, it (x.1 : Int)) :: T) (fun T _ => T) (fun T x => Res.cells b56 (stC (zN γ c S num prev b56 v50 v32 v42 x.2.1 (x.2.2.map (·.p)))) 100 :: Res.row x.2.1 (x.2.2.map (·.p)).length 101 1 ((x.2.2.map (·.p)).map fun p => ptr p 0) :: Res.sep (x.2.2.map dR) :: T) (fun x => S.length - x.1) (0, .slice none 0 0, []) [10, 11, 17, 58, 77] ?_ (fun x hx => ?_)
 ·exact ⟨Nat.zero_le _, rfl, fun _ h => absurd h List.not_mem_nil⟩
 obtain ⟨k, av, ds⟩ := x
 obtain ⟨hk, hdl, hfr⟩ := hx
 have hml : (ds.map (·.p)).length = ds.length := List.length_map _
 dsimp only at hk hdl hfr ⊢
 refine .seq (.region ?_)
 refine .w (.bin rfl rfl BinR.lss_i) ?_
 refine .nil (.tn (.seq ?_))
 refine .cn rfl (fun hc4 => ?_) (fun hc4 => ?_)
 ·skip
  refine .skip (.tn (.seq (.block (.region ?_))))
  refine .w (.move rfl) (.w (.move rfl) (.w (.nilCheck rfl) (.w (.fieldAddr fa_100_7 rfl) (.w (.ld one_98 rfl) ?_))))
  refine .mm itK blV fun b66 => ?_
  refine .mm itK blV fun b67 => ?_
  refine .mm itK ntV fun b68 => ?_
  refine .mm itK blV fun b69 => ?_
  refine .w (.build (cs := (dlC (freshD 0 b66 b67 b68 b69))) bld_105 rfl (by kernel_rfl)) (.bx fun b71 => ?_)
  refine .l1 Tryz.underlying98 info_101 (fun v72 => ?_)
  refine .ap Tryz.underlying98 info_101 (fun v73 => ?_)
  rw [show (ds.map (·.p)).length + 1 = ((ds ++ [(freshD b71 b66 b67 b68 b69)]).map (·.p)).length from by simp, show ((ds.map (·.p)).map fun p => ptr p 0) ++ [ptr b71 0] = ((ds ++ [(freshD b71 b66 b67 b68 b69)]).map (·.p)).map fun p => ptr p 0 from by rw [List.map_append, List.map_append]; rfl]
  refine .w (.nilCheck rfl) (.w (.fieldAddr fa_100_7 rfl) ?_)
  refine .s1s sz_98 ?_
  rw [show (stC (zN γ c S num prev b56 v50 v32 v42 av (ds.map (·.p)))).set 44 v73 = stC (zN γ c S num prev b56 v50 v32 v42 v73 ((ds ++ [(freshD b71 b66 b67 b68 b69)]).map (·.p))) from rfl]
  refine JO.nilRow 40 4 ?_
  refine JO.sp0 ?_
  refine JO.rs (A := dlL (freshD b71 b66 b67 b68 b69)) (B := []) (L := dlL (freshD b71 b66 b67 b68 b69)) (by rw [List.append_nil]) ?_
  refine JO.rs (A := [dR (freshD b71 b66 b67 b68 b69)]) (B := ds.map dR) (L := (ds ++ [(freshD b71 b66 b67 b68 b69)]).map dR) (ds_snoc ds _) ?_
  refine .nil (.block_normal (.tn (.region ?_)))
  refine .w (.asI ((k + 1 : Nat) : Int) (.bin rfl rfl (BinR.add_i zq3))) (.w (.move rfl) (.nil ?_))
  refine .hd (k + 1, v73, ds ++ [(freshD b71 b66 b67 b68 b69)]) ?_
  exact ⟨⟨by dsimp only; omega, by dsimp only; rw [List.length_append, hdl]; rfl, fun d hd => by rcases List.mem_append.1 hd with h | h; exact hfr d h; rw [List.mem_singleton.1 h]; exact fresh_ok _ _ _ _ _⟩, by dsimp only; omega⟩
 ·obtain rfl : k = S.length := by omega
  refine .exit (.then_exit (.then_exit (.block_exit (.tn (.seq (.region ?_))))))
  refine .w (.move rfl) (.w (.assign rfl) (.w (.assign rfl) ?_))
  refine .nil (.tn (.ret ?_))
  exact .dn [] [Res.cells (zN γ c S num prev b56 v50 v32 v42 av (ds.map (·.p))).s (stC (zN γ c S num prev b56 v50 v32 v42 av (ds.map (·.p)))) 100, Res.row (zN γ c S num prev b56 v50 v32 v42 av (ds.map (·.p))).sv (zN γ c S num prev b56 v50 v32 v42 av (ds.map (·.p))).S.length 22 1 ((zN γ c S num prev b56 v50 v32 v42 av (ds.map (·.p))).S.map u64), Res.row (zN γ c S num prev b56 v50 v32 v42 av (ds.map (·.p))).cv (zN γ c S num prev b56 v50 v32 v42 av (ds.map (·.p))).cnt.length 3 1 ((zN γ c S num prev b56 v50 v32 v42 av (ds.map (·.p))).cnt.map it), Res.row (zN γ c S num prev b56 v50 v32 v42 av (ds.map (·.p))).ov (zN γ c S num prev b56 v50 v32 v42 av (ds.map (·.p))).own.length 3 1 ((zN γ c S num prev b56 v50 v32 v42 av (ds.map (·.p))).own.map it), Res.row (zN γ c S num prev b56 v50 v32 v42 av (ds.map (·.p))).av (zN γ c S num prev b56 v50 v32 v42 av (ds.map (·.p))).ps.length 101 1 ((zN γ c S num prev b56 v50 v32 v42 av (ds.map (·.p))).ps.map fun p => ptr p 0), Res.sep (ds.map dR), cGrp γ, Res.mod γ.px γ.P, Res.mod γ.pq γ.Q] (res2 rfl (.tmp rfl) (.tmp rfl)) ⟨(zN γ c S num prev b56 v50 v32 v42 av (ds.map (·.p))), ds, ⟨rfl, rfl, rfl, rfl, rfl, rfl, rfl, rfl, hdl, hfr⟩, rfl, rfl, rfl⟩
end Go.Proofs.YtmhiapebljfebaaGreatDoor
