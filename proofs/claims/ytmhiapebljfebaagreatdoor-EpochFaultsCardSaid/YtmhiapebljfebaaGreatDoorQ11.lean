/- Texts of ours, gathered: LF LFZ. -/
import Derived.Test.YtmhiapebljfebaaGreatDoorQ10
/- The law EpochFaults. -/
namespace Go.Proofs.YtmhiapebljfebaaGreatDoor
open Go.RowKit
set_option maxRecDepth 100000
set_option linter.unusedVariables false
set_option linter.unusedSimpArgs false
theorem f3b_spec (sv uv : Value) (wh : Int) (c : Cfg) (S : List W64) (L : List SX) (hL : ∀ s ∈ L, SXok s) (hE : newE (gG wh) c S ≠ 0) :
    Spec Tryz.prog 3 #[(it wh), (.agg (cfgC c).toArray), sv, uv] [Res.var 0 ((wd 5).map u64), Res.var 1 ((wd 2).map u64), Res.var 2 ((wd 1).map u64), Res.var 3 ((wd 2).map u64), Res.rd sv S.length 1 (S.map u64), Res.rd uv L.length 10 (bks stpC L), Res.all (stpRes L)] []
      (fun r Γ' H' => r = (.bool true) ∧ Γ' = [] ∧ H' = []) := by
  refine Spec.of_args Tryz.func3 rfl Tryz.ntmps3 (by simp) fun w => ?_
  refine JC.know (φ := S.length ≤ 9223372036854775807) (fun w hs => by obtain ⟨_, _, _, _, _, _, h⟩ := hs.rdForm (.tail _ (.tail _ (.tail _ (.tail _ (.head _))))); unfold maxLen at h; omega) fun hSl => ?_
  refine JC.know (φ := L.length ≤ 9223372036854775807) (fun w hs => by obtain ⟨_, _, _, _, _, _, h⟩ := hs.rdForm (.tail _ (.tail _ (.tail _ (.tail _ (.tail _ (.head _)))))); unfold maxLen at h; omega) fun hLl => ?_
  refine .seq (.region ?_)
  refine .bx fun b5 => ?_
  refine .w (.assign rfl) ?_
  refine .nil (.tn (.seq (.region ?_)))
  refine .c (f9_spec) body_9 ?_
  refine .w (.assign rfl) ?_
  refine .nil (.tn (.seq (.region ?_)))
  refine .w (.move rfl) ?_
  refine .cb (f10_spec wh) body_10 ?_ (h0 := by rintro _ _ _ ⟨_, _, _, _, _, _, h, _⟩; exact h)
  rintro _ _ ⟨γ, hγ, hP, hQ, hG, rfl, _, rfl⟩
  refine .ap ?_
  rw [← newE_q hQ] at hE
  refine .w (.assign rfl) ?_
  refine .nil (.tn (.seq (.seq (.region ?_))))
  refine .w (.move rfl) ?_
  refine .w (.bin rfl rfl (BinR.eql_p Tryz.underlying28)) ?_
  refine .nil (.tn ?_)
  refine .cf rfl ?_
  refine .skip (.tn (.seq (.region ?_)))
  refine .w (.move rfl) ?_
  refine .w (.as (v' := .agg (cfgC c).toArray) (.lda agg_24 rfl) (by rfl)) ?_
  refine .w (.move rfl) ?_
  refine .w (.as (v' := .agg (prevC d32z).toArray) (.build bld_35 rfl rfl) (by rfl)) ?_
  refine .c (f11b_spec γ hγ c sv S 0 d32z hE) body_11 ?_
  refine .w (.move rfl) ?_
  refine .w (.as (v' := .pointer none) (.extract rfl rfl) rfl) ?_
  refine .w (.as (v' := it (newE γ c S)) (.extract rfl rfl) rfl) ?_
  refine .w (.assign rfl) ?_
  refine .w (.assign rfl) ?_
  refine .nil (.tn (.seq (.seq (.region ?_))))
  refine .w (.move rfl) ?_
  refine .w (.bin rfl rfl (BinR.eql_p Tryz.underlying30)) ?_
  refine .w (.move rfl) ?_
  refine .gf (g := 36) rfl rfl rfl (by decide) ?_
  refine .gf (g := 36) rfl rfl rfl (by decide) ?_
  refine .gf (g := 36) rfl rfl rfl (by decide) ?_
  refine .w (.pick1 rfl rfl rfl) ?_
  refine .w (.move rfl) ?_
  refine .gf (g := 41) rfl rfl rfl (by decide) ?_
  refine .gf (g := 41) rfl rfl rfl (by decide) ?_
  refine .gf (g := 41) rfl rfl rfl (by decide) ?_
  refine .w (.pick1 rfl rfl rfl) ?_
  refine .nil (.tn ?_)
  refine .ct rfl ?_
  refine .seq (.region ?_)
  refine .w (.move rfl) ?_
  refine .w (.move rfl) ?_
  refine .gt (g := 47) rfl rfl rfl ?_
  refine .w (.move rfl) ?_
  refine .gt (g := 47) rfl rfl rfl ?_
  refine .w (.bin rfl rfl (BinR.neq_p Tryz.underlying30)) ?_
  refine .gt (g := 47) rfl rfl rfl ?_
  refine .w (.move rfl) ?_
  refine .gt (g := 50) rfl rfl rfl ?_
  refine .w (.move rfl) ?_
  refine .gt (g := 50) rfl rfl rfl ?_
  refine .w (.as (v' := .bool true) (.bin rfl rfl BinR.neq_i) (congrArg Value.bool (decide_eq_true hE))) ?_
  refine .gt (g := 47) rfl rfl rfl ?_
  refine .w (.pick0 rfl rfl rfl) ?_
  refine .w (.pick1 rfl rfl rfl) ?_
  refine .w (.assign rfl) ?_
  refine .nil (.tn (.ret (.then_ret ?_)))
  exact .dn [] [] (res1 rfl (.tmp rfl)) ⟨rfl, rfl, rfl⟩

set_option maxHeartbeats 4000000 in
theorem f3a_spec (sv uv : Value) (wh : Int) (c : Cfg) (S : List W64) (L : List SX) (hL : ∀ s ∈ L, SXok s) (hE : newE (gG wh) c S = 0) :
    Spec Tryz.prog 3 #[(it wh), (.agg (cfgC c).toArray), sv, uv] [Res.var 0 ((wd 5).map u64), Res.var 1 ((wd 2).map u64), Res.var 2 ((wd 1).map u64), Res.var 3 ((wd 2).map u64), Res.rd sv S.length 1 (S.map u64), Res.rd uv L.length 10 (bks stpC L), Res.all (stpRes L)] []
      (fun r Γ' H' => r = (.bool true) ∧ Γ' = [] ∧ H' = []) := by
  refine Spec.of_args Tryz.func3 rfl Tryz.ntmps3 (by simp) fun w => ?_
  refine JC.know (φ := S.length ≤ 9223372036854775807) (fun w hs => by obtain ⟨_, _, _, _, _, _, h⟩ := hs.rdForm (.tail _ (.tail _ (.tail _ (.tail _ (.head _))))); unfold maxLen at h; omega) fun hSl => ?_
  refine JC.know (φ := L.length ≤ 9223372036854775807) (fun w hs => by obtain ⟨_, _, _, _, _, _, h⟩ := hs.rdForm (.tail _ (.tail _ (.tail _ (.tail _ (.tail _ (.head _)))))); unfold maxLen at h; omega) fun hLl => ?_
  refine .seq (.region ?_)
  refine .bx fun b5 => ?_
  refine .w (.assign rfl) ?_
  refine .nil (.tn (.seq (.region ?_)))
  refine .c (f9_spec) body_9 ?_
  refine .w (.assign rfl) ?_
  refine .nil (.tn (.seq (.region ?_)))
  refine .w (.move rfl) ?_
  refine .cb (f10_spec wh) body_10 ?_ (h0 := by rintro _ _ _ ⟨_, _, _, _, _, _, h, _⟩; exact h)
  rintro _ _ ⟨γ, hγ, hP, hQ, hG, rfl, _, rfl⟩
  refine .ap ?_
  rw [← newE_q hQ] at hE
  refine .w (.assign rfl) ?_
  refine .nil (.tn (.seq (.seq (.region ?_))))
  refine .w (.move rfl) ?_
  refine .w (.bin rfl rfl (BinR.eql_p Tryz.underlying28)) ?_
  refine .nil (.tn ?_)
  refine .cf rfl ?_
  refine .skip (.tn (.seq (.region ?_)))
  refine .w (.move rfl) ?_
  refine .w (.as (v' := .agg (cfgC c).toArray) (.lda agg_24 rfl) (by rfl)) ?_
  refine .w (.move rfl) ?_
  refine .w (.as (v' := .agg (prevC d32z).toArray) (.build bld_35 rfl rfl) (by rfl)) ?_
  refine .cb (f11a_spec γ hγ c sv S 0 d32z hE) body_11 ?_ (h0 := by rintro _ _ _ ⟨_, _, _, _, h, _⟩; exact h)
  rintro _ _ ⟨z, ds, hN, rfl, _, rfl⟩
  refine .ap ?_
  obtain rfl := hN.eγ
  have hz := hN.ok hγ hE
  obtain ⟨-, -, -, hS40, -, -⟩ := new_0 hE
  have hpl : z.ps.length = S.length := hz.len.trans hN.elen
  have hdl := hN.elen
  refine JO.frz (r := Res.cells z.s (stC z) 100) (by repeat (first | exact Pull.here _ _ | apply Pull.there)) ?_
  refine JO.freeze (v := z.sv) (by repeat (first | exact Pull.here _ _ | apply Pull.there)) (by decide) ?_
  refine JO.freeze (v := z.cv) (by repeat (first | exact Pull.here _ _ | apply Pull.there)) (by decide) ?_
  refine JO.freeze (v := z.ov) (by repeat (first | exact Pull.here _ _ | apply Pull.there)) (by decide) ?_
  refine JO.freeze (v := z.av) (by repeat (first | exact Pull.here _ _ | apply Pull.there)) (by decide) ?_
  refine .w (.move rfl) ?_
  refine .w (.as (v' := ptr z.s 0) (.extract rfl rfl) rfl) ?_
  refine .w (.as (v' := it 0) (.extract rfl rfl) rfl) ?_
  refine .w (.assign rfl) ?_
  refine .w (.assign rfl) ?_
  refine .nil (.tn (.seq (.seq (.region ?_))))
  refine .w (.move rfl) ?_
  refine .w (.bin rfl rfl (BinR.eql_p Tryz.underlying30)) ?_
  refine .w (.move rfl) ?_
  refine .gt (g := 36) rfl rfl rfl ?_
  refine .w (.move rfl) ?_
  refine .gt (g := 36) rfl rfl rfl ?_
  refine .w (.len Tryz.underlying25 rfl) ?_
  refine .gt (g := 36) rfl rfl rfl ?_
  refine .w (.bin rfl rfl BinR.gtr_i) ?_
  refine .w (.pick0 rfl rfl rfl) ?_
  refine .w (.move rfl) ?_
  refine .join 4 45 (.bool (decide (S.length > 6 ∨ L.length > 30))) ?_ ?_
  · refine .gn (g := 40) rfl (fun hg29 hg29' => ?_) (fun hg29 hg29' => ?_)
    · refine .gf (g := 41) rfl rfl hg29 (by decide) ?_
      refine .gf (g := 41) rfl rfl hg29 (by decide) ?_
      refine .gf (g := 41) rfl rfl hg29 (by decide) ?_
      refine .w (.pick1 rfl hg29 rfl) ?_
      refine .nil ?_
      refine .head () (by first | (refine ⟨by first | rfl | exact congrArg (fun b => some (Value.bool b)) (by first | exact (decide_eq_true (by omega)).symm | exact (decide_eq_false (by omega)).symm | exact decide_eq_decide.2 (by omega)) | (simp [*]; done) | (show some _ = some _; simp [*]; done), ?_⟩; repeat (first | exact trivial | refine ⟨rfl, ?_⟩))) (fun _ h => h) (Picks.perm zqd) ?_
      trivial
    · refine .gt (g := 41) rfl rfl hg29 ?_
      refine .w (.move rfl) ?_
      refine .gt (g := 41) rfl rfl hg29 ?_
      refine .w (.len Tryz.underlying26 rfl) ?_
      refine .gt (g := 41) rfl rfl hg29 ?_
      refine .w (.bin rfl rfl BinR.gtr_i) ?_
      refine .w (.pick0 rfl hg29 rfl) ?_
      refine .nil ?_
      refine .head () (by first | (refine ⟨by first | rfl | exact congrArg (fun b => some (Value.bool b)) (by first | exact (decide_eq_true (by omega)).symm | exact (decide_eq_false (by omega)).symm | exact decide_eq_decide.2 (by omega)) | (simp [*]; done) | (show some _ = some _; simp [*]; done), ?_⟩; repeat (first | exact trivial | refine ⟨rfl, ?_⟩))) (fun _ h => h) (Picks.perm zqd) ?_
      trivial
  · refine .nil (.tn ?_)
    refine .cn rfl (fun hc2 => ?_) (fun hc2 => ?_)
    · skip
      refine .seq (.region ?_)
      refine .w (.move rfl) ?_
      refine .w (.move rfl) ?_
      refine .gt (g := 47) rfl rfl rfl ?_
      refine .w (.move rfl) ?_
      refine .gt (g := 47) rfl rfl rfl ?_
      refine .w (.bin rfl rfl (BinR.neq_p Tryz.underlying30)) ?_
      refine .gt (g := 47) rfl rfl rfl ?_
      refine .w (.move rfl) ?_
      refine .gf (g := 50) rfl rfl rfl (by decide) ?_
      refine .gf (g := 50) rfl rfl rfl (by decide) ?_
      refine .gt (g := 47) rfl rfl rfl ?_
      refine .w (.pick1 rfl rfl rfl) ?_
      refine .w (.pick1 rfl rfl rfl) ?_
      refine .w (.assign rfl) ?_
      refine .nil (.tn (.ret (.then_ret ?_)))
      exact .dn [] [] (res1 rfl (.tmp rfl)) ⟨rfl, rfl, rfl⟩
    · have hS6 : S.length ≤ 6 := by omega
      have hL30 : L.length ≤ 30 := by omega
      clear hSl hLl
      refine .skip (.tn (.seq (.region ?_)))
      refine .w (.move rfl) ?_
      refine .w (.len Tryz.underlying25 rfl) ?_
      refine .mk1 Tryz.underlying36 info_4 (fun v57 => ?_) (n := S.length)
      rw [show List.replicate S.length (Value.bool false) = (List.replicate S.length false).map blV from by rw [List.map_replicate]]
      refine .w (.assign rfl) ?_
      refine .nil (.tn (.seq (.region ?_)))
      refine .w (.move rfl) ?_
      refine .w (.len Tryz.underlying25 rfl) ?_
      refine .mk1 Tryz.underlying36 info_4 (fun v60 => ?_) (n := S.length)
      rw [show List.replicate S.length (Value.bool false) = (List.replicate S.length false).map blV from by rw [List.map_replicate]]
      refine .w (.assign rfl) ?_
      refine .nil (.tn (.seq (.region ?_)))
      refine .w (.move rfl) ?_
      refine .w (.len Tryz.underlying25 rfl) ?_
      refine .mk1 Tryz.underlying37 info_3 (fun v63 => ?_) (n := S.length)
      rw [show List.replicate S.length (Value.int .i64 0) = (List.replicate S.length (0 : Int)).map it from by rw [List.map_replicate]]
      refine .w (.assign rfl) ?_
      refine .nil (.tn (.seq (.seq (.region ?_))))
      refine .w (.assign rfl) ?_
      refine .nil (.tn (.block ?_))
      refine .lp (ι := Nat × List DL × List Bool × List Bool × List Int × Value) (fun x => x.1 ≤ L.length ∧ EOk z x.2.1 ∧ x.2.1.length = S.length ∧ InvF z.own x.2.1 x.2.2.1 x.2.2.2.1 x.2.2.2.2.1) (fun T x => (16, it (x.1 : Int)) :: (15, x.2.2.2.2.2) :: T) (fun T _ => T) (fun T x => Res.sep (x.2.1.map dR) :: Res.row v57 S.length 4 1 (x.2.2.1.map blV) :: Res.row v60 S.length 4 1 (x.2.2.2.1.map blV) :: Res.row x.2.2.2.2.2 S.length 3 1 (x.2.2.2.2.1.map it) :: T) (fun x => L.length - x.1) (0, ds, List.replicate S.length false, List.replicate S.length false, List.replicate S.length 0, v63) [2, 3, 9, 11, 13, 14, 210] ?_ (fun x hx => ?_)
      · exact ⟨Nat.zero_le _, hz, hdl, by rw [← hdl]; exact InvF.start hN.efresh⟩
      obtain ⟨k, ds, A, R, l, lv⟩ := x
      obtain ⟨hk, hz2, hdl1, hI⟩ := hx
      dsimp only at hk hz2 hdl1 hI ⊢
      have hAl := hI.a
      have hRl := hI.r
      have hll := hI.l
      refine .seq (.seq (.region ?_))
      refine .w (.move rfl) ?_
      refine .w (.move rfl) ?_
      refine .w (.len Tryz.underlying26 rfl) ?_
      refine .w (.bin rfl rfl BinR.lss_i) ?_
      refine .nil (.tn ?_)
      refine .cn rfl (fun hc3 => ?_) (fun hc3 => ?_)
      · obtain ⟨sx, hsx⟩ : ∃ sx, sx = L.getD k SZ := ⟨_, rfl⟩
        have hso : SXok sx := by rw [hsx]; exact hL _ (stp_mem (by omega))
        obtain ⟨tx, hT⟩ : ∃ tx, tx = (L.getD k SZ).tx := ⟨_, rfl⟩
        have hTs : tx = sx.tx := by rw [hT, hsx]
        have hTc : ∀ a ∈ tx.com, a < 115792089237316195423570985008687907853269984665640564039457584007913129639936 := by rw [hTs]; exact hso.com
        have hTv : tx.val < 115792089237316195423570985008687907853269984665640564039457584007913129639936 := by rw [hTs]; exact hso.val
        refine JC.open (r := Res.rd tx.v tx.com.length 4 (bks natC tx.com)) zqa (by rw [hT]; exact stp_res (by omega)) ?_
        refine .skip (.tn (.seq (.block (.seq (.region ?_)))))
        refine .w (.move rfl) ?_
        refine .w (.move rfl) ?_
        refine .w (.ix Tryz.underlying26 sz_44 rfl rfl) ?_
        refine .w (.fieldAddr fa_44_1 rfl) ?_
        refine .w (.as (v' := .agg (txC tx).toArray) (.lda agg_42 rfl (hm := by first | exact AM.own (by (repeat (first | exact List.Mem.head _ | refine List.Mem.tail _ ?_)); first | done | fail) (by rw [bks_len]; omega) | exact AM.ro (by (repeat (first | exact List.Mem.head _ | refine List.Mem.tail _ ?_)); first | done | fail) (by rw [bks_len]; omega) | exact AM.ownAt (by (repeat (first | exact List.Mem.head _ | refine List.Mem.tail _ ?_)); first | done | fail) (by rw [bks_len]; omega) | exact AM.rd zqc (by rw [bks_len]; omega) | exact AM.row zqa (by rw [bks_len]; omega))) (congrArg (fun l : List Value => Value.agg l.toArray) ((stp_tx (by omega)).trans (congrArg txC hT.symm)))) ?_
        refine .al zero_42 fun b17 => ?_
        refine .sa sz_42 ?_ (h1 := (by rw [hT]; exact tx_one _))
        refine JO.frz (r := Res.cells b17 (txC tx) 42) (by repeat (first | exact Pull.here _ _ | apply Pull.there)) ?_
        refine .nil (.tn ?_)
        refine .mt (ι := Value) (fun x => True) (fun T x => (18, it (applyE z ds sx.at_ tx)) :: T) (fun T _ => T) (fun T x => Res.sep ((applyN z ds sx.at_ tx hTv x).map dR) :: T) [2, 3, 8, 9, 11, 13, 14, 15, 16, 17, 19, 20, 64, 65, 66, 67, 68, 69, 70, 71, 72, 73, 74, 83, 84, 85, 86, 87, 88, 89, 90, 91, 92, 93, 94, 95, 96, 97, 98, 99, 100, 101, 102, 103, 104, 105, 106, 107, 108, 109, 110, 111, 112, 113, 114, 115, 116, 117, 118, 119, 120, 121, 122, 123, 124, 125, 126, 127, 128, 129, 130, 131, 132, 133, 134, 135, 136, 137, 138, 139, 140, 141, 142, 143, 144, 145, 146, 147, 148, 149, 150, 151, 152, 153, 154, 155, 156, 157, 158, 159, 160, 161, 162, 163, 164, 165, 166, 167, 168, 169, 170, 171, 172, 173, 174, 175, 176, 177, 178, 179, 180, 181, 182, 183, 184, 185, 186, 187, 188, 189, 190, 191, 192, 193, 194, 195, 196, 197, 198, 199, 200, 201, 202, 203, 204, 205, 206, 207, 208, 209, 210] [Res.sep (ds.map dR)] ?_ (fun x hx => ?_)
        · refine JC.draw (.one 0 (.one 1 (.one 2 (.one 3 (.one 4 (.one 5 (.one 6 (.one 7 (.one 8 .nil))))))))) (fun i => ([7] : List Nat).contains i) (fun i => ([7] : List Nat).contains i) (fun i => ([0, 1, 2, 3, 4, 5, 6, 8] : List Nat).contains i) mixed (by kernel_rfl) (by decide) (by kernel_rfl) ?_
          refine .uw rfl (.move rfl) ?_
          refine .uw rfl (.move rfl) ?_
          refine .uw rfl (.move rfl) ?_
          refine .uw rfl (.ix Tryz.underlying26 sz_44 rfl rfl) ?_
          refine .uw rfl (.fieldAddr fa_44_0 rfl) ?_
          refine .uw rfl (.as (v' := it sx.at_) (.ld one_3 rfl (hj := by exact stp_at (by omega))) (congrArg (fun s : SX => it s.at_) hsx.symm)) ?_
          refine .uw rfl (.as (v' := .agg (txC tx).toArray) (.lda agg_42 rfl) (by rfl)) ?_
          refine .mw rfl (.cb (f12_spec z ds hz2 sx.at_ hso.at_ tx hTc hTv) body_12 (h0 := by rintro _ _ _ ⟨_, _, h, _⟩; exact h)) ?_
          rintro _ _ _ ⟨_, ⟨cx1, rfl, _, rfl⟩, hΓ, hH⟩
          simp only [List.cons_append, List.nil_append] at hH; subst hΓ hH
          refine kp ?_
          refine .uw rfl (.assign rfl) ?_
          refine .nil ?_
          refine .hd cx1 ?_
          trivial
        · obtain ⟨cx, hcx⟩ : ∃ cx, cx = x := ⟨_, rfl⟩
          subst hcx
          refine .mt (ι := List Bool × List Bool) (fun x => x.1 = (actT A tx S.length) ∧ x.2 = (revT R tx (applyE z ds sx.at_ tx) S.length)) (fun T _ => T) (fun T _ => T) (fun T x => Res.row v57 S.length 4 1 (x.1.map blV) :: Res.row v60 S.length 4 1 (x.2.map blV) :: T) [2, 3, 8, 9, 11, 13, 14, 15, 16, 17, 18, 19, 20, 64, 65, 66, 67, 68, 69, 70, 71, 72, 73, 74, 75, 76, 77, 78, 79, 80, 81, 82, 125, 126, 127, 128, 129, 130, 131, 132, 133, 134, 135, 136, 137, 138, 139, 140, 141, 142, 143, 144, 145, 146, 147, 148, 149, 150, 151, 152, 153, 154, 155, 156, 157, 158, 159, 160, 161, 162, 163, 164, 165, 166, 167, 168, 169, 170, 171, 172, 173, 174, 175, 176, 177, 178, 179, 180, 181, 182, 183, 184, 185, 186, 187, 188, 189, 190, 191, 192, 193, 194, 195, 196, 197, 198, 199, 200, 201, 202, 203, 204, 205, 206, 207, 208, 209, 210] [Res.row v57 S.length 4 1 (A.map blV), Res.row v60 S.length 4 1 (R.map blV)] ?_ (fun x hx => ?_)
          · refine .seq (.region ?_)
            refine .w (.fieldAddr fa_42_1 rfl) ?_
            refine .w (.as (v' := it tx.frm) (.ld one_3 rfl) rfl) ?_
            refine .w (.bin rfl rfl BinR.geq_i) ?_
            refine .w (.move rfl) ?_
            refine .join 6 92 (.bool (decide (0 ≤ tx.frm ∧ tx.frm < (S.length : Int)))) ?_ ?_
            · refine .gn (g := 85) rfl (fun hg80 hg80' => ?_) (fun hg80 hg80' => ?_)
              · refine .gt (g := 86) rfl rfl hg80 ?_
                refine .w (.fieldAddr fa_42_1 rfl) ?_
                refine .gt (g := 86) rfl rfl hg80 ?_
                refine .w (.as (v' := it tx.frm) (.ld one_3 rfl) rfl) ?_
                refine .gt (g := 86) rfl rfl hg80 ?_
                refine .w (.move rfl) ?_
                refine .gt (g := 86) rfl rfl hg80 ?_
                refine .w (.len Tryz.underlying25 rfl) ?_
                refine .gt (g := 86) rfl rfl hg80 ?_
                refine .w (.bin rfl rfl BinR.lss_i) ?_
                refine .w (.pick1 rfl hg80 rfl) ?_
                refine .nil ?_
                refine .head () (by first | (refine ⟨by first | rfl | exact congrArg (fun b => some (Value.bool b)) (by first | exact (decide_eq_true (by omega)).symm | exact (decide_eq_false (by omega)).symm | exact decide_eq_decide.2 (by omega)) | (simp [*]; done) | (show some _ = some _; simp [*]; done), ?_⟩; repeat (first | exact trivial | refine ⟨rfl, ?_⟩))) (fun _ h => h) (Picks.perm zqd) ?_
                trivial
              · refine .gf (g := 86) rfl rfl hg80 (by decide) ?_
                refine .gf (g := 86) rfl rfl hg80 (by decide) ?_
                refine .gf (g := 86) rfl rfl hg80 (by decide) ?_
                refine .gf (g := 86) rfl rfl hg80 (by decide) ?_
                refine .gf (g := 86) rfl rfl hg80 (by decide) ?_
                refine .w (.pick0 rfl hg80 rfl) ?_
                refine .nil ?_
                refine .head () (by first | (refine ⟨by first | rfl | exact congrArg (fun b => some (Value.bool b)) (by first | exact (decide_eq_true (by omega)).symm | exact (decide_eq_false (by omega)).symm | exact decide_eq_decide.2 (by omega)) | (simp [*]; done) | (show some _ = some _; simp [*]; done), ?_⟩; repeat (first | exact trivial | refine ⟨rfl, ?_⟩))) (fun _ h => h) (Picks.perm zqd) ?_
                trivial
            · refine .nil (.tn ?_)
              refine .cn rfl (fun hc4 => ?_) (fun hc4 => ?_)
              · obtain ⟨f, hf⟩ : ∃ f : Nat, tx.frm = (f : Int) := ⟨tx.frm.toNat, by omega⟩
                refine .seq ?_
                refine JC.draw (.one 0 (.one 1 (.one 2 (.one 3 (.one 4 (.one 5 (.one 6 (.one 7 (.one 8 (.one 9 (.one 10 (.one 11 (.one 12 (.one 13 (.one 14 .nil))))))))))))))) (fun i => ([14] : List Nat).contains i) (fun i => ([14] : List Nat).contains i) (fun i => ([0, 1, 2, 3, 4, 5, 8, 9, 10, 11, 12] : List Nat).contains i) mixed (by kernel_rfl) (by decide) (by kernel_rfl) ?_
                refine .uw rfl (.move rfl) ?_
                refine .uw rfl (.fieldAddr fa_42_1 rfl) ?_
                refine .uw rfl (.as (v' := it (f : Int)) (.ld one_3 rfl) (congrArg it hf)) ?_
                refine .uw rfl (.move rfl) ?_
                refine .uw rfl (.fieldAddr fa_42_1 rfl) ?_
                refine .uw rfl (.as (v' := it (f : Int)) (.ld one_3 rfl) (congrArg it hf)) ?_
                refine .w rfl (.ix1 Tryz.underlying36 sz_4 rfl rfl) ?_
                refine .w rfl (.as (v' := .bool (A.getD f false)) (.ld one_4 rfl (hj := by exact gm (d := false) (by omega))) rfl) ?_
                refine .uw rfl (.move rfl) ?_
                refine JR.gsplit (g := 100) rfl (fun hg95 => ?_) (fun hg95 => ?_)
                · have hg95' := hg95
                  try simp only [decide_eq_true_eq, decide_eq_false_iff_not, Bool.not_eq_true', Bool.not_eq_false', ne_eq, Decidable.not_not, Bool.not_eq_true, Bool.and_eq_true, Bool.or_eq_true, BitVec.reduceToNat] at hg95'
                  refine JR.gf (g := 101) rfl rfl rfl rfl hg95 (by decide) ?_
                  refine JR.gf (g := 101) rfl rfl rfl rfl hg95 (by decide) ?_
                  refine JR.gf (g := 101) rfl rfl rfl rfl hg95 (by decide) ?_
                  refine JR.u rfl rfl rfl (Yv.pick1 rfl hg95 rfl) (by decide) ?_
                  refine .w rfl (.ix1 Tryz.underlying36 sz_4 rfl rfl) ?_
                  refine .mw0 rfl (.sr1 sz_4) ?_
                  rintro _ _ _ ⟨rfl, rfl⟩
                  refine kp ?_
                  first | rw [act_set (A := A) (t := tx) (n := S.length) hf (by omega) (show true = _ from by rw [hg95]; rfl)] | rw [act_set (A := A) (t := tx) (n := S.length) hf (by omega) (show decide (tx.kind = 1) = _ from by rw [hg95]; rfl)]
                  refine .nil (.tn ?_)
                  refine JC.draw (.one 0 (.one 1 (.one 2 (.one 3 (.one 4 (.one 5 (.one 6 (.one 7 (.one 8 (.one 9 (.one 10 (.one 11 (.one 12 (.one 13 (.one 14 (.one 15 (.one 16 (.one 17 (.one 18 .nil))))))))))))))))))) (fun i => ([18] : List Nat).contains i) (fun i => ([18] : List Nat).contains i) (fun i => ([0, 1, 2, 3, 4, 5, 8, 9, 10, 11, 12, 13, 14, 15, 16] : List Nat).contains i) mixed (by kernel_rfl) (by decide) (by kernel_rfl) ?_
                  refine .uw rfl (.move rfl) ?_
                  refine .uw rfl (.fieldAddr fa_42_1 rfl) ?_
                  refine .uw rfl (.as (v' := it (f : Int)) (.ld one_3 rfl) (congrArg it hf)) ?_
                  refine .uw rfl (.move rfl) ?_
                  refine .uw rfl (.fieldAddr fa_42_1 rfl) ?_
                  refine .uw rfl (.as (v' := it (f : Int)) (.ld one_3 rfl) (congrArg it hf)) ?_
                  refine .w rfl (.ix1 Tryz.underlying36 sz_4 rfl rfl) ?_
                  refine .w rfl (.as (v' := .bool (R.getD f false)) (.ld one_4 rfl (hj := by exact gm (d := false) (by omega))) rfl) ?_
                  refine .uw rfl (.move rfl) ?_
                  refine JR.gsplit (g := 114) rfl (fun hg110 => ?_) (fun hg110 => ?_)
                  · have hg110' := hg110
                    try simp only [decide_eq_true_eq, decide_eq_false_iff_not, Bool.not_eq_true', Bool.not_eq_false', ne_eq, Decidable.not_not, Bool.not_eq_true, Bool.and_eq_true, Bool.or_eq_true, BitVec.reduceToNat] at hg110'
                    refine JR.gf (g := 115) rfl rfl rfl rfl hg110 (by decide) ?_
                    refine JR.gf (g := 115) rfl rfl rfl rfl hg110 (by decide) ?_
                    refine JR.gf (g := 115) rfl rfl rfl rfl hg110 (by decide) ?_
                    refine JR.gf (g := 115) rfl rfl rfl rfl hg110 (by decide) ?_
                    refine JR.gu (g := 119) rfl rfl rfl rfl (by decide) ?_
                    refine JR.gu (g := 119) rfl rfl rfl rfl (by decide) ?_
                    refine JR.gf (g := 115) rfl rfl rfl rfl hg110 (by decide) ?_
                    refine JR.u rfl rfl rfl (Yv.pick1 rfl hg110 rfl) (by decide) ?_
                    refine .w rfl (.ix1 Tryz.underlying36 sz_4 rfl rfl) ?_
                    refine .mw0 rfl (.sr1 sz_4) ?_
                    rintro _ _ _ ⟨rfl, rfl⟩
                    refine kp ?_
                    first | rw [rev_set (R := R) (t := tx) (n := S.length) (e := (applyE z ds sx.at_ tx)) hf (by omega) (show true = _ from by rw [hg110]; rfl)] | rw [rev_set (R := R) (t := tx) (n := S.length) (e := (applyE z ds sx.at_ tx)) hf (by omega) (show decide ((applyE z ds sx.at_ tx) = 0) = _ from by rw [hg110, hg114]; rfl)] | rw [rev_set (R := R) (t := tx) (n := S.length) (e := (applyE z ds sx.at_ tx)) hf (by omega) (show false = _ from by rw [hg110, hg114]; rfl)]
                    refine .nil ?_
                    first | refine .hd ((actT A tx S.length), (revT R tx (applyE z ds sx.at_ tx) S.length)) ?_ | refine .hd (A, R) ?_
                    first | exact ⟨rfl, rfl⟩ | exact ⟨(if_neg hc4).symm, (if_neg hc4).symm⟩
                  · have hg110' := hg110
                    try simp only [decide_eq_true_eq, decide_eq_false_iff_not, Bool.not_eq_true', Bool.not_eq_false', ne_eq, Decidable.not_not, Bool.not_eq_true, Bool.and_eq_true, Bool.or_eq_true, BitVec.reduceToNat] at hg110'
                    refine JR.ugt (g := 115) rfl rfl rfl rfl rfl hg110 (.fieldAddr fa_42_0 rfl) (by decide) ?_
                    refine JR.ugt (g := 115) rfl rfl rfl rfl rfl hg110 (.as (v' := it tx.kind) (.ld one_3 rfl) rfl) (by decide) ?_
                    refine JR.ugt (g := 115) rfl rfl rfl rfl rfl hg110 (.bin rfl rfl BinR.eql_i) (by decide) ?_
                    refine JR.ugt (g := 115) rfl rfl rfl rfl rfl hg110 (.move rfl) (by decide) ?_
                    refine JR.gsplit (g := 118) rfl (fun hg114 => ?_) (fun hg114 => ?_)
                    · have hg114' := hg114
                      try simp only [decide_eq_true_eq, decide_eq_false_iff_not, Bool.not_eq_true', Bool.not_eq_false', ne_eq, Decidable.not_not, Bool.not_eq_true, Bool.and_eq_true, Bool.or_eq_true, BitVec.reduceToNat] at hg114'
                      refine JR.ugt (g := 119) rfl rfl rfl rfl rfl hg114 (.move rfl) (by decide) ?_
                      refine JR.ugt (g := 119) rfl rfl rfl rfl rfl hg114 (.bin rfl rfl BinR.eql_i) (by decide) ?_
                      refine JR.ugt (g := 115) rfl rfl rfl rfl rfl hg110 (Yv.pick1 rfl hg114 rfl) (by decide) ?_
                      refine JR.u rfl rfl rfl (Yv.pick0 rfl hg110 rfl) (by decide) ?_
                      refine .w rfl (.ix1 Tryz.underlying36 sz_4 rfl rfl) ?_
                      refine .mw0 rfl (.sr1 sz_4) ?_
                      rintro _ _ _ ⟨rfl, rfl⟩
                      refine kp ?_
                      first | rw [rev_set (R := R) (t := tx) (n := S.length) (e := (applyE z ds sx.at_ tx)) hf (by omega) (show true = _ from by rw [hg110]; rfl)] | rw [rev_set (R := R) (t := tx) (n := S.length) (e := (applyE z ds sx.at_ tx)) hf (by omega) (show decide ((applyE z ds sx.at_ tx) = 0) = _ from by rw [hg110, hg114]; rfl)] | rw [rev_set (R := R) (t := tx) (n := S.length) (e := (applyE z ds sx.at_ tx)) hf (by omega) (show false = _ from by rw [hg110, hg114]; rfl)]
                      refine .nil ?_
                      first | refine .hd ((actT A tx S.length), (revT R tx (applyE z ds sx.at_ tx) S.length)) ?_ | refine .hd (A, R) ?_
                      first | exact ⟨rfl, rfl⟩ | exact ⟨(if_neg hc4).symm, (if_neg hc4).symm⟩
                    · have hg114' := hg114
                      try simp only [decide_eq_true_eq, decide_eq_false_iff_not, Bool.not_eq_true', Bool.not_eq_false', ne_eq, Decidable.not_not, Bool.not_eq_true, Bool.and_eq_true, Bool.or_eq_true, BitVec.reduceToNat] at hg114'
                      refine JR.gf (g := 119) rfl rfl rfl rfl hg114 (by decide) ?_
                      refine JR.gf (g := 119) rfl rfl rfl rfl hg114 (by decide) ?_
                      refine JR.ugt (g := 115) rfl rfl rfl rfl rfl hg110 (Yv.pick0 rfl hg114 rfl) (by decide) ?_
                      refine JR.u rfl rfl rfl (Yv.pick0 rfl hg110 rfl) (by decide) ?_
                      refine .w rfl (.ix1 Tryz.underlying36 sz_4 rfl rfl) ?_
                      refine .mw0 rfl (.sr1 sz_4) ?_
                      rintro _ _ _ ⟨rfl, rfl⟩
                      refine kp ?_
                      first | rw [rev_set (R := R) (t := tx) (n := S.length) (e := (applyE z ds sx.at_ tx)) hf (by omega) (show true = _ from by rw [hg110]; rfl)] | rw [rev_set (R := R) (t := tx) (n := S.length) (e := (applyE z ds sx.at_ tx)) hf (by omega) (show decide ((applyE z ds sx.at_ tx) = 0) = _ from by rw [hg110, hg114]; rfl)] | rw [rev_set (R := R) (t := tx) (n := S.length) (e := (applyE z ds sx.at_ tx)) hf (by omega) (show false = _ from by rw [hg110, hg114]; rfl)]
                      refine .nil ?_
                      first | refine .hd ((actT A tx S.length), (revT R tx (applyE z ds sx.at_ tx) S.length)) ?_ | refine .hd (A, R) ?_
                      first | exact ⟨rfl, rfl⟩ | exact ⟨(if_neg hc4).symm, (if_neg hc4).symm⟩
                · have hg95' := hg95
                  try simp only [decide_eq_true_eq, decide_eq_false_iff_not, Bool.not_eq_true', Bool.not_eq_false', ne_eq, Decidable.not_not, Bool.not_eq_true, Bool.and_eq_true, Bool.or_eq_true, BitVec.reduceToNat] at hg95'
                  refine JR.ugt (g := 101) rfl rfl rfl rfl rfl hg95 (.fieldAddr fa_42_0 rfl) (by decide) ?_
                  refine JR.ugt (g := 101) rfl rfl rfl rfl rfl hg95 (.as (v' := it tx.kind) (.ld one_3 rfl) rfl) (by decide) ?_
                  refine JR.ugt (g := 101) rfl rfl rfl rfl rfl hg95 (.bin rfl rfl BinR.eql_i) (by decide) ?_
                  refine JR.u rfl rfl rfl (Yv.pick0 rfl hg95 rfl) (by decide) ?_
                  refine .w rfl (.ix1 Tryz.underlying36 sz_4 rfl rfl) ?_
                  refine .mw0 rfl (.sr1 sz_4) ?_
                  rintro _ _ _ ⟨rfl, rfl⟩
                  refine kp ?_
                  first | rw [act_set (A := A) (t := tx) (n := S.length) hf (by omega) (show true = _ from by rw [hg95]; rfl)] | rw [act_set (A := A) (t := tx) (n := S.length) hf (by omega) (show decide (tx.kind = 1) = _ from by rw [hg95]; rfl)]
                  refine .nil (.tn ?_)
                  refine JC.draw (.one 0 (.one 1 (.one 2 (.one 3 (.one 4 (.one 5 (.one 6 (.one 7 (.one 8 (.one 9 (.one 10 (.one 11 (.one 12 (.one 13 (.one 14 (.one 15 (.one 16 (.one 17 (.one 18 .nil))))))))))))))))))) (fun i => ([18] : List Nat).contains i) (fun i => ([18] : List Nat).contains i) (fun i => ([0, 1, 2, 3, 4, 5, 8, 9, 10, 11, 12, 13, 14, 15, 16] : List Nat).contains i) mixed (by kernel_rfl) (by decide) (by kernel_rfl) ?_
                  refine .uw rfl (.move rfl) ?_
                  refine .uw rfl (.fieldAddr fa_42_1 rfl) ?_
                  refine .uw rfl (.as (v' := it (f : Int)) (.ld one_3 rfl) (congrArg it hf)) ?_
                  refine .uw rfl (.move rfl) ?_
                  refine .uw rfl (.fieldAddr fa_42_1 rfl) ?_
                  refine .uw rfl (.as (v' := it (f : Int)) (.ld one_3 rfl) (congrArg it hf)) ?_
                  refine .w rfl (.ix1 Tryz.underlying36 sz_4 rfl rfl) ?_
                  refine .w rfl (.as (v' := .bool (R.getD f false)) (.ld one_4 rfl (hj := by exact gm (d := false) (by omega))) rfl) ?_
                  refine .uw rfl (.move rfl) ?_
                  refine JR.gsplit (g := 114) rfl (fun hg110 => ?_) (fun hg110 => ?_)
                  · have hg110' := hg110
                    try simp only [decide_eq_true_eq, decide_eq_false_iff_not, Bool.not_eq_true', Bool.not_eq_false', ne_eq, Decidable.not_not, Bool.not_eq_true, Bool.and_eq_true, Bool.or_eq_true, BitVec.reduceToNat] at hg110'
                    refine JR.gf (g := 115) rfl rfl rfl rfl hg110 (by decide) ?_
                    refine JR.gf (g := 115) rfl rfl rfl rfl hg110 (by decide) ?_
                    refine JR.gf (g := 115) rfl rfl rfl rfl hg110 (by decide) ?_
                    refine JR.gf (g := 115) rfl rfl rfl rfl hg110 (by decide) ?_
                    refine JR.gu (g := 119) rfl rfl rfl rfl (by decide) ?_
                    refine JR.gu (g := 119) rfl rfl rfl rfl (by decide) ?_
                    refine JR.gf (g := 115) rfl rfl rfl rfl hg110 (by decide) ?_
                    refine JR.u rfl rfl rfl (Yv.pick1 rfl hg110 rfl) (by decide) ?_
                    refine .w rfl (.ix1 Tryz.underlying36 sz_4 rfl rfl) ?_
                    refine .mw0 rfl (.sr1 sz_4) ?_
                    rintro _ _ _ ⟨rfl, rfl⟩
                    refine kp ?_
                    first | rw [rev_set (R := R) (t := tx) (n := S.length) (e := (applyE z ds sx.at_ tx)) hf (by omega) (show true = _ from by rw [hg110]; rfl)] | rw [rev_set (R := R) (t := tx) (n := S.length) (e := (applyE z ds sx.at_ tx)) hf (by omega) (show decide ((applyE z ds sx.at_ tx) = 0) = _ from by rw [hg110, hg114]; rfl)] | rw [rev_set (R := R) (t := tx) (n := S.length) (e := (applyE z ds sx.at_ tx)) hf (by omega) (show false = _ from by rw [hg110, hg114]; rfl)]
                    refine .nil ?_
                    first | refine .hd ((actT A tx S.length), (revT R tx (applyE z ds sx.at_ tx) S.length)) ?_ | refine .hd (A, R) ?_
                    first | exact ⟨rfl, rfl⟩ | exact ⟨(if_neg hc4).symm, (if_neg hc4).symm⟩
                  · have hg110' := hg110
                    try simp only [decide_eq_true_eq, decide_eq_false_iff_not, Bool.not_eq_true', Bool.not_eq_false', ne_eq, Decidable.not_not, Bool.not_eq_true, Bool.and_eq_true, Bool.or_eq_true, BitVec.reduceToNat] at hg110'
                    refine JR.ugt (g := 115) rfl rfl rfl rfl rfl hg110 (.fieldAddr fa_42_0 rfl) (by decide) ?_
                    refine JR.ugt (g := 115) rfl rfl rfl rfl rfl hg110 (.as (v' := it tx.kind) (.ld one_3 rfl) rfl) (by decide) ?_
                    refine JR.ugt (g := 115) rfl rfl rfl rfl rfl hg110 (.bin rfl rfl BinR.eql_i) (by decide) ?_
                    refine JR.ugt (g := 115) rfl rfl rfl rfl rfl hg110 (.move rfl) (by decide) ?_
                    refine JR.gsplit (g := 118) rfl (fun hg114 => ?_) (fun hg114 => ?_)
                    · have hg114' := hg114
                      try simp only [decide_eq_true_eq, decide_eq_false_iff_not, Bool.not_eq_true', Bool.not_eq_false', ne_eq, Decidable.not_not, Bool.not_eq_true, Bool.and_eq_true, Bool.or_eq_true, BitVec.reduceToNat] at hg114'
                      refine JR.ugt (g := 119) rfl rfl rfl rfl rfl hg114 (.move rfl) (by decide) ?_
                      refine JR.ugt (g := 119) rfl rfl rfl rfl rfl hg114 (.bin rfl rfl BinR.eql_i) (by decide) ?_
                      refine JR.ugt (g := 115) rfl rfl rfl rfl rfl hg110 (Yv.pick1 rfl hg114 rfl) (by decide) ?_
                      refine JR.u rfl rfl rfl (Yv.pick0 rfl hg110 rfl) (by decide) ?_
                      refine .w rfl (.ix1 Tryz.underlying36 sz_4 rfl rfl) ?_
                      refine .mw0 rfl (.sr1 sz_4) ?_
                      rintro _ _ _ ⟨rfl, rfl⟩
                      refine kp ?_
                      first | rw [rev_set (R := R) (t := tx) (n := S.length) (e := (applyE z ds sx.at_ tx)) hf (by omega) (show true = _ from by rw [hg110]; rfl)] | rw [rev_set (R := R) (t := tx) (n := S.length) (e := (applyE z ds sx.at_ tx)) hf (by omega) (show decide ((applyE z ds sx.at_ tx) = 0) = _ from by rw [hg110, hg114]; rfl)] | rw [rev_set (R := R) (t := tx) (n := S.length) (e := (applyE z ds sx.at_ tx)) hf (by omega) (show false = _ from by rw [hg110, hg114]; rfl)]
                      refine .nil ?_
                      first | refine .hd ((actT A tx S.length), (revT R tx (applyE z ds sx.at_ tx) S.length)) ?_ | refine .hd (A, R) ?_
                      first | exact ⟨rfl, rfl⟩ | exact ⟨(if_neg hc4).symm, (if_neg hc4).symm⟩
                    · have hg114' := hg114
                      try simp only [decide_eq_true_eq, decide_eq_false_iff_not, Bool.not_eq_true', Bool.not_eq_false', ne_eq, Decidable.not_not, Bool.not_eq_true, Bool.and_eq_true, Bool.or_eq_true, BitVec.reduceToNat] at hg114'
                      refine JR.gf (g := 119) rfl rfl rfl rfl hg114 (by decide) ?_
                      refine JR.gf (g := 119) rfl rfl rfl rfl hg114 (by decide) ?_
                      refine JR.ugt (g := 115) rfl rfl rfl rfl rfl hg110 (Yv.pick0 rfl hg114 rfl) (by decide) ?_
                      refine JR.u rfl rfl rfl (Yv.pick0 rfl hg110 rfl) (by decide) ?_
                      refine .w rfl (.ix1 Tryz.underlying36 sz_4 rfl rfl) ?_
                      refine .mw0 rfl (.sr1 sz_4) ?_
                      rintro _ _ _ ⟨rfl, rfl⟩
                      refine kp ?_
                      first | rw [rev_set (R := R) (t := tx) (n := S.length) (e := (applyE z ds sx.at_ tx)) hf (by omega) (show true = _ from by rw [hg110]; rfl)] | rw [rev_set (R := R) (t := tx) (n := S.length) (e := (applyE z ds sx.at_ tx)) hf (by omega) (show decide ((applyE z ds sx.at_ tx) = 0) = _ from by rw [hg110, hg114]; rfl)] | rw [rev_set (R := R) (t := tx) (n := S.length) (e := (applyE z ds sx.at_ tx)) hf (by omega) (show false = _ from by rw [hg110, hg114]; rfl)]
                      refine .nil ?_
                      first | refine .hd ((actT A tx S.length), (revT R tx (applyE z ds sx.at_ tx) S.length)) ?_ | refine .hd (A, R) ?_
                      first | exact ⟨rfl, rfl⟩ | exact ⟨(if_neg hc4).symm, (if_neg hc4).symm⟩
              · skip
                refine .skip ?_
                first | refine .hd ((actT A tx S.length), (revT R tx (applyE z ds sx.at_ tx) S.length)) ?_ | refine .hd (A, R) ?_
                first | exact ⟨rfl, rfl⟩ | exact ⟨(if_neg hc4).symm, (if_neg hc4).symm⟩
          · obtain ⟨A2, R2⟩ := x
            obtain ⟨h1, h2⟩ := hx
            dsimp only at h1 h2 ⊢
            subst h1 h2
            have hz3 := hz2.apply sx.at_ tx hTc hTv cx
            have hI2 := hI.step hz2 sx.at_ tx hTv cx S.length hdl1.symm
            have hdl2 : (applyN z ds sx.at_ tx hTv cx).length = S.length := (apply_len z ds sx.at_ tx hTv cx).trans hdl1
            have hfl : (faultL z.own (applyN z ds sx.at_ tx hTv cx)).length = S.length := by rw [faultL, List.length_map, hdl2]
            have hA2 := hI2.a
            have hR2 := hI2.r
            have hl2 := hI2.l
            refine .seq (.region ?_)
            refine .w (.move rfl) ?_
            refine .cb (f13_spec z (applyN z ds sx.at_ tx hTv cx) hz3.ps (by omega)) body_13 ?_ (h0 := by rintro _ _ _ ⟨_, _, h, _⟩; exact h)
            rintro v126 _ ⟨_, rfl, _, rfl⟩
            refine .ap ?_
            rw [hfl]
            refine .w (.assign rfl) ?_
            refine .nil (.tn (.seq (.seq (.region ?_))))
            refine .w (.move rfl) ?_
            refine .w (.len Tryz.underlying37 rfl) ?_
            refine .w (.move rfl) ?_
            refine .w (.len Tryz.underlying25 rfl) ?_
            refine .w (.bin rfl rfl BinR.neq_i) ?_
            refine .nil (.tn ?_)
            refine .cn rfl (fun hc5 => ?_) (fun hc5 => ?_)
            · exact absurd rfl hc5
            · skip
              refine .skip (.tn (.seq (.seq (.region ?_))))
              refine .w (.assign rfl) ?_
              refine .nil (.tn (.block ?_))
              refine .lp (ι := Nat) (fun x => x ≤ S.length) (fun T x => (20, it (x : Int)) :: T) (fun T _ => T) (fun T _ => T) (fun x => S.length - x) 0 [2, 3, 9, 11, 13, 14, 15, 16, 17, 18, 19, 64, 65, 66, 67, 68, 69, 70, 71, 72, 73, 74, 75, 76, 77, 78, 79, 80, 81, 82, 83, 84, 85, 86, 87, 88, 89, 90, 91, 92, 93, 94, 95, 96, 97, 98, 99, 100, 101, 102, 103, 104, 105, 106, 107, 108, 109, 110, 111, 112, 113, 114, 115, 116, 117, 118, 119, 120, 121, 122, 123, 124, 125, 126, 127, 128, 129, 130, 131, 209, 210] ?_ (fun x hx => ?_)
              · exact Nat.zero_le _
              obtain ⟨j, hj⟩ : ∃ j, j = x := ⟨_, rfl⟩
              subst hj
              have hj := hx
              refine .seq (.seq (.region ?_))
              refine .w (.move rfl) ?_
              refine .w (.move rfl) ?_
              refine .w (.len Tryz.underlying37 rfl) ?_
              refine .w (.bin rfl rfl BinR.lss_i) ?_
              refine .nil (.tn ?_)
              refine .cn rfl (fun hc6 => ?_) (fun hc6 => ?_)
              · have hjd : j < (applyN z ds sx.at_ tx hTv cx).length := by rw [hdl2]; omega
                obtain ⟨fk, hfk⟩ : ∃ fk, fk = (faultL z.own (applyN z ds sx.at_ tx hTv cx)).getD j 0 := ⟨_, rfl⟩
                obtain ⟨ak, hak⟩ : ∃ ak, ak = (actT A tx S.length).getD j false := ⟨_, rfl⟩
                obtain ⟨rk, hrk⟩ : ∃ rk, rk = (revT R tx (applyE z ds sx.at_ tx) S.length).getD j false := ⟨_, rfl⟩
                obtain ⟨lk, hlk⟩ : ∃ lk, lk = l.getD j 0 := ⟨_, rfl⟩
                have hck : chkF ak rk lk fk := by rw [hfk, hak, hrk, hlk, flt_get hjd]; exact (hI2.ok j hjd).chk
                refine .skip (.tn (.seq (.block (.seq ?_))))
                refine JC.draw (.one 0 (.one 1 (.one 2 (.one 3 (.one 4 (.one 5 (.one 6 (.one 7 (.one 8 (.one 9 (.one 10 (.one 11 (.one 12 (.one 13 (.one 14 (.one 15 (.one 16 (.one 17 (.one 18 (.one 19 (.one 20 (.one 21 (.one 22 (.one 23 (.one 24 (.one 25 (.one 26 (.one 27 (.one 28 (.one 29 (.one 30 (.one 31 (.one 32 (.one 33 (.one 34 (.one 35 (.one 36 (.one 37 (.one 38 (.one 39 (.one 40 (.one 41 (.one 42 (.one 43 (.one 44 (.one 45 (.one 46 (.one 47 (.one 48 (.one 49 (.one 50 (.one 51 (.one 52 (.one 53 (.one 54 (.one 55 (.one 56 (.one 57 (.one 58 (.one 59 (.one 60 (.one 61 (.one 62 (.one 63 (.one 64 (.one 65 (.one 66 (.one 67 (.one 68 (.one 69 (.one 70 .nil))))))))))))))))))))))))))))))))))))))))))))))))))))))))))))))))))))))) (fun i => ([] : List Nat).contains i) (fun i => ([] : List Nat).contains i) (fun i => ([0, 1, 4, 5, 6, 7, 10, 11, 12, 13, 14, 17, 18, 19, 20, 23, 24, 25, 26, 27, 28, 31, 32, 33, 34, 37, 38, 39, 40, 41, 44, 45, 48, 49, 50, 51, 52, 53, 56, 57, 58, 61, 62, 63, 64, 65, 68, 69, 70] : List Nat).contains i) mixed (by kernel_rfl) (by decide) (by kernel_rfl) ?_
                refine .uw rfl (.move rfl) ?_
                refine .uw rfl (.move rfl) ?_
                refine .w rfl (.ix1 Tryz.underlying37 sz_3 rfl rfl) ?_
                refine .w rfl (.as (v' := it fk) (.ld one_3 rfl (hj := by exact gm (d := 0) (by omega))) (congrArg it hfk.symm)) ?_
                refine .uw rfl (.bin rfl rfl BinR.lss_i) ?_
                refine .uw rfl (.move rfl) ?_
                refine JR.gsplit (g := 142) rfl (fun hg140 => ?_) (fun hg140 => ?_)
                · have hg140' := hg140
                  try simp only [decide_eq_true_eq, decide_eq_false_iff_not, Bool.not_eq_true', Bool.not_eq_false', ne_eq, Decidable.not_not, Bool.not_eq_true, Bool.and_eq_true, Bool.or_eq_true, BitVec.reduceToNat] at hg140'
                  exact absurd hg140' (by have := hck.1; omega) --end
                · have hg140' := hg140
                  try simp only [decide_eq_true_eq, decide_eq_false_iff_not, Bool.not_eq_true', Bool.not_eq_false', ne_eq, Decidable.not_not, Bool.not_eq_true, Bool.and_eq_true, Bool.or_eq_true, BitVec.reduceToNat] at hg140'
                  refine JR.ugt (g := 143) rfl rfl rfl rfl rfl hg140 (.move rfl) (by decide) ?_
                  refine JR.ugt (g := 143) rfl rfl rfl rfl rfl hg140 (.move rfl) (by decide) ?_
                  refine JR.vgt (g := 143) rfl rfl rfl rfl rfl hg140 (.ix1 Tryz.underlying37 sz_3 rfl rfl) (by decide) ?_
                  refine JR.vgt (g := 143) rfl rfl rfl rfl rfl hg140 (.as (v' := it fk) (.ld one_3 rfl (hj := by exact gm (d := 0) (by omega))) (congrArg it hfk.symm)) (by decide) ?_
                  refine JR.ugt (g := 143) rfl rfl rfl rfl rfl hg140 (.bin rfl rfl BinR.gtr_i) (by decide) ?_
                  refine JR.u rfl rfl rfl (Yv.pick0 rfl hg140 rfl) (by decide) ?_
                  refine .uw rfl (.move rfl) ?_
                  refine JR.gsplit (g := 149) rfl (fun hg147 => ?_) (fun hg147 => ?_)
                  · have hg147' := hg147
                    try simp only [decide_eq_true_eq, decide_eq_false_iff_not, Bool.not_eq_true', Bool.not_eq_false', ne_eq, Decidable.not_not, Bool.not_eq_true, Bool.and_eq_true, Bool.or_eq_true, BitVec.reduceToNat] at hg147'
                    exact absurd hg147' (by have := hck.2.1; omega) --end
                  · have hg147' := hg147
                    try simp only [decide_eq_true_eq, decide_eq_false_iff_not, Bool.not_eq_true', Bool.not_eq_false', ne_eq, Decidable.not_not, Bool.not_eq_true, Bool.and_eq_true, Bool.or_eq_true, BitVec.reduceToNat] at hg147'
                    refine JR.ugt (g := 150) rfl rfl rfl rfl rfl hg147 (.move rfl) (by decide) ?_
                    refine JR.ugt (g := 150) rfl rfl rfl rfl rfl hg147 (.move rfl) (by decide) ?_
                    refine JR.vgt (g := 150) rfl rfl rfl rfl rfl hg147 (.ix1 Tryz.underlying36 sz_4 rfl rfl) (by decide) ?_
                    refine JR.vgt (g := 150) rfl rfl rfl rfl rfl hg147 (.as (v' := .bool ak) (.ld one_4 rfl (hj := by exact gm (d := false) (by omega))) (congrArg Value.bool hak.symm)) (by decide) ?_
                    refine JR.ugt (g := 150) rfl rfl rfl rfl rfl hg147 (.not rfl) (by decide) ?_
                    refine JR.ugt (g := 150) rfl rfl rfl rfl rfl hg147 (.move rfl) (by decide) ?_
                    refine JR.gsplit (g := 155) rfl (fun hg153 => ?_) (fun hg153 => ?_)
                    · have hg153' := hg153
                      try simp only [decide_eq_true_eq, decide_eq_false_iff_not, Bool.not_eq_true', Bool.not_eq_false', ne_eq, Decidable.not_not, Bool.not_eq_true, Bool.and_eq_true, Bool.or_eq_true, BitVec.reduceToNat] at hg153'
                      refine JR.ugt (g := 156) rfl rfl rfl rfl rfl hg153 (.move rfl) (by decide) ?_
                      refine JR.ugt (g := 156) rfl rfl rfl rfl rfl hg153 (.move rfl) (by decide) ?_
                      refine JR.vgt (g := 156) rfl rfl rfl rfl rfl hg153 (.ix1 Tryz.underlying37 sz_3 rfl rfl) (by decide) ?_
                      refine JR.vgt (g := 156) rfl rfl rfl rfl rfl hg153 (.as (v' := it fk) (.ld one_3 rfl (hj := by exact gm (d := 0) (by omega))) (congrArg it hfk.symm)) (by decide) ?_
                      refine JR.ugt (g := 156) rfl rfl rfl rfl rfl hg153 (.bin rfl rfl BinR.neq_i) (by decide) ?_
                      refine JR.ugt (g := 150) rfl rfl rfl rfl rfl hg147 (Yv.pick1 rfl hg153 rfl) (by decide) ?_
                      refine JR.u rfl rfl rfl (Yv.pick0 rfl hg147 rfl) (by decide) ?_
                      refine .uw rfl (.move rfl) ?_
                      refine JR.gsplit (g := 163) rfl (fun hg161 => ?_) (fun hg161 => ?_)
                      · have hg161' := hg161
                        try simp only [decide_eq_true_eq, decide_eq_false_iff_not, Bool.not_eq_true', Bool.not_eq_false', ne_eq, Decidable.not_not, Bool.not_eq_true, Bool.and_eq_true, Bool.or_eq_true, BitVec.reduceToNat] at hg161'
                        exfalso
                        first | exact absurd hg161 (by decide) | (exact hg161' (hck.2.2.1 (by simpa using hg153'))) --end
                      · have hg161' := hg161
                        try simp only [decide_eq_true_eq, decide_eq_false_iff_not, Bool.not_eq_true', Bool.not_eq_false', ne_eq, Decidable.not_not, Bool.not_eq_true, Bool.and_eq_true, Bool.or_eq_true, BitVec.reduceToNat] at hg161'
                        refine JR.ugt (g := 164) rfl rfl rfl rfl rfl hg161 (.move rfl) (by decide) ?_
                        refine JR.ugt (g := 164) rfl rfl rfl rfl rfl hg161 (.move rfl) (by decide) ?_
                        refine JR.vgt (g := 164) rfl rfl rfl rfl rfl hg161 (.ix1 Tryz.underlying37 sz_3 rfl rfl) (by decide) ?_
                        refine JR.vgt (g := 164) rfl rfl rfl rfl rfl hg161 (.as (v' := it lk) (.ld one_3 rfl (hj := by exact gm (d := 0) (by omega))) (congrArg it hlk.symm)) (by decide) ?_
                        refine JR.ugt (g := 164) rfl rfl rfl rfl rfl hg161 (.bin rfl rfl BinR.eql_i) (by decide) ?_
                        refine JR.ugt (g := 164) rfl rfl rfl rfl rfl hg161 (.move rfl) (by decide) ?_
                        refine JR.gsplit (g := 169) rfl (fun hg167 => ?_) (fun hg167 => ?_)
                        · have hg167' := hg167
                          try simp only [decide_eq_true_eq, decide_eq_false_iff_not, Bool.not_eq_true', Bool.not_eq_false', ne_eq, Decidable.not_not, Bool.not_eq_true, Bool.and_eq_true, Bool.or_eq_true, BitVec.reduceToNat] at hg167'
                          refine JR.gf (g := 170) rfl rfl rfl rfl hg167 (by decide) ?_
                          refine JR.gf (g := 170) rfl rfl rfl rfl hg167 (by decide) ?_
                          refine JR.gf (g := 170) rfl rfl rfl rfl hg167 (by decide) ?_
                          refine JR.gf (g := 170) rfl rfl rfl rfl hg167 (by decide) ?_
                          refine JR.gf (g := 170) rfl rfl rfl rfl hg167 (by decide) ?_
                          refine JR.ugt (g := 164) rfl rfl rfl rfl rfl hg161 (Yv.pick1 rfl hg167 rfl) (by decide) ?_
                          refine JR.ugt (g := 164) rfl rfl rfl rfl rfl hg161 (.move rfl) (by decide) ?_
                          refine JR.ugt (g := 177) rfl rfl rfl rfl rfl rfl (.move rfl) (by decide) ?_
                          refine JR.ugt (g := 177) rfl rfl rfl rfl rfl rfl (.move rfl) (by decide) ?_
                          refine JR.vgt (g := 177) rfl rfl rfl rfl rfl rfl (.ix1 Tryz.underlying37 sz_3 rfl rfl) (by decide) ?_
                          refine JR.vgt (g := 177) rfl rfl rfl rfl rfl rfl (.as (v' := it fk) (.ld one_3 rfl (hj := by exact gm (d := 0) (by omega))) (congrArg it hfk.symm)) (by decide) ?_
                          refine JR.ugt (g := 177) rfl rfl rfl rfl rfl rfl (.move rfl) (by decide) ?_
                          refine JR.ugt (g := 177) rfl rfl rfl rfl rfl rfl (.move rfl) (by decide) ?_
                          refine JR.vgt (g := 177) rfl rfl rfl rfl rfl rfl (.ix1 Tryz.underlying37 sz_3 rfl rfl) (by decide) ?_
                          refine JR.vgt (g := 177) rfl rfl rfl rfl rfl rfl (.as (v' := it lk) (.ld one_3 rfl (hj := by exact gm (d := 0) (by omega))) (congrArg it hlk.symm)) (by decide) ?_
                          refine JR.ugt (g := 177) rfl rfl rfl rfl rfl rfl (.bin rfl rfl BinR.neq_i) (by decide) ?_
                          refine JR.ugt (g := 164) rfl rfl rfl rfl rfl hg161 (Yv.pick1 rfl rfl rfl) (by decide) ?_
                          refine JR.u rfl rfl rfl (Yv.pick0 rfl hg161 rfl) (by decide) ?_
                          refine .uw rfl (.move rfl) ?_
                          refine JR.gsplit (g := 188) rfl (fun hg186 => ?_) (fun hg186 => ?_)
                          · have hg186' := hg186
                            try simp only [decide_eq_true_eq, decide_eq_false_iff_not, Bool.not_eq_true', Bool.not_eq_false', ne_eq, Decidable.not_not, Bool.not_eq_true, Bool.and_eq_true, Bool.or_eq_true, BitVec.reduceToNat] at hg186'
                            exfalso
                            first | exact absurd hg186 (by decide) | exact hg186' (hck.2.2.2.1 (by first | exact .inl hg167' | exact .inr hg174')) --end
                          · have hg186' := hg186
                            try simp only [decide_eq_true_eq, decide_eq_false_iff_not, Bool.not_eq_true', Bool.not_eq_false', ne_eq, Decidable.not_not, Bool.not_eq_true, Bool.and_eq_true, Bool.or_eq_true, BitVec.reduceToNat] at hg186'
                            refine JR.ugt (g := 189) rfl rfl rfl rfl rfl hg186 (.move rfl) (by decide) ?_
                            refine JR.ugt (g := 189) rfl rfl rfl rfl rfl hg186 (.move rfl) (by decide) ?_
                            refine JR.vgt (g := 189) rfl rfl rfl rfl rfl hg186 (.ix1 Tryz.underlying36 sz_4 rfl rfl) (by decide) ?_
                            refine JR.vgt (g := 189) rfl rfl rfl rfl rfl hg186 (.as (v' := .bool rk) (.ld one_4 rfl (hj := by exact gm (d := false) (by omega))) (congrArg Value.bool hrk.symm)) (by decide) ?_
                            refine JR.ugt (g := 189) rfl rfl rfl rfl rfl hg186 (.move rfl) (by decide) ?_
                            refine JR.gsplit (g := 193) rfl (fun hg191 => ?_) (fun hg191 => ?_)
                            · have hg191' := hg191
                              try simp only [decide_eq_true_eq, decide_eq_false_iff_not, Bool.not_eq_true', Bool.not_eq_false', ne_eq, Decidable.not_not, Bool.not_eq_true, Bool.and_eq_true, Bool.or_eq_true, BitVec.reduceToNat] at hg191'
                              refine JR.ugt (g := 194) rfl rfl rfl rfl rfl hg191 (.move rfl) (by decide) ?_
                              refine JR.ugt (g := 194) rfl rfl rfl rfl rfl hg191 (.move rfl) (by decide) ?_
                              refine JR.vgt (g := 194) rfl rfl rfl rfl rfl hg191 (.ix1 Tryz.underlying37 sz_3 rfl rfl) (by decide) ?_
                              refine JR.vgt (g := 194) rfl rfl rfl rfl rfl hg191 (.as (v' := it fk) (.ld one_3 rfl (hj := by exact gm (d := 0) (by omega))) (congrArg it hfk.symm)) (by decide) ?_
                              refine JR.ugt (g := 194) rfl rfl rfl rfl rfl hg191 (.bin rfl rfl BinR.neq_i) (by decide) ?_
                              refine JR.ugt (g := 189) rfl rfl rfl rfl rfl hg186 (Yv.pick1 rfl hg191 rfl) (by decide) ?_
                              refine JR.ugt (g := 189) rfl rfl rfl rfl rfl hg186 (.move rfl) (by decide) ?_
                              refine JR.gsplit (g := 200) rfl (fun hg198 => ?_) (fun hg198 => ?_)
                              · have hg198' := hg198
                                try simp only [decide_eq_true_eq, decide_eq_false_iff_not, Bool.not_eq_true', Bool.not_eq_false', ne_eq, Decidable.not_not, Bool.not_eq_true, Bool.and_eq_true, Bool.or_eq_true, BitVec.reduceToNat] at hg198'
                                refine JR.ugt (g := 201) rfl rfl rfl rfl rfl hg198 (.move rfl) (by decide) ?_
                                refine JR.ugt (g := 201) rfl rfl rfl rfl rfl hg198 (.move rfl) (by decide) ?_
                                refine JR.vgt (g := 201) rfl rfl rfl rfl rfl hg198 (.ix1 Tryz.underlying37 sz_3 rfl rfl) (by decide) ?_
                                refine JR.vgt (g := 201) rfl rfl rfl rfl rfl hg198 (.as (v' := it fk) (.ld one_3 rfl (hj := by exact gm (d := 0) (by omega))) (congrArg it hfk.symm)) (by decide) ?_
                                refine JR.ugt (g := 201) rfl rfl rfl rfl rfl hg198 (.bin rfl rfl BinR.neq_i) (by decide) ?_
                                refine JR.ugt (g := 189) rfl rfl rfl rfl rfl hg186 (Yv.pick1 rfl hg198 rfl) (by decide) ?_
                                refine JR.u rfl rfl rfl (Yv.pick0 rfl hg186 rfl) (by decide) ?_
                                refine .nil (.tn ?_)
                                refine .cn rfl (fun hc7 => ?_) (fun hc7 => ?_)
                                · exfalso
                                  first | exact absurd hc7 (by decide) | (have h5 := hck.2.2.2.2 (by assumption); omega)
                                · skip
                                  refine .skip (.block_normal (.tn (.region ?_)))
                                  refine .w (.move rfl) ?_
                                  refine .w (.asI ((j + 1 : Nat) : Int) (.bin rfl rfl (BinR.add_i zqf))) ?_
                                  refine .w (.assign rfl) ?_
                                  refine .nil ?_
                                  refine .hd (j + 1) ?_
                                  exact ⟨by omega, by omega⟩
                              · have hg198' := hg198
                                try simp only [decide_eq_true_eq, decide_eq_false_iff_not, Bool.not_eq_true', Bool.not_eq_false', ne_eq, Decidable.not_not, Bool.not_eq_true, Bool.and_eq_true, Bool.or_eq_true, BitVec.reduceToNat] at hg198'
                                refine JR.gf (g := 201) rfl rfl rfl rfl hg198 (by decide) ?_
                                refine JR.gf (g := 201) rfl rfl rfl rfl hg198 (by decide) ?_
                                refine JR.gf (g := 201) rfl rfl rfl rfl hg198 (by decide) ?_
                                refine JR.gf (g := 201) rfl rfl rfl rfl hg198 (by decide) ?_
                                refine JR.gf (g := 201) rfl rfl rfl rfl hg198 (by decide) ?_
                                refine JR.ugt (g := 189) rfl rfl rfl rfl rfl hg186 (Yv.pick0 rfl hg198 rfl) (by decide) ?_
                                refine JR.u rfl rfl rfl (Yv.pick0 rfl hg186 rfl) (by decide) ?_
                                refine .nil (.tn ?_)
                                refine .k0 rfl rfl ?_
                                refine .skip (.block_normal (.tn (.region ?_)))
                                refine .w (.move rfl) ?_
                                refine .w (.asI ((j + 1 : Nat) : Int) (.bin rfl rfl (BinR.add_i zqf))) ?_
                                refine .w (.assign rfl) ?_
                                refine .nil ?_
                                refine .hd (j + 1) ?_
                                exact ⟨by omega, by omega⟩
                            · have hg191' := hg191
                              try simp only [decide_eq_true_eq, decide_eq_false_iff_not, Bool.not_eq_true', Bool.not_eq_false', ne_eq, Decidable.not_not, Bool.not_eq_true, Bool.and_eq_true, Bool.or_eq_true, BitVec.reduceToNat] at hg191'
                              refine JR.gf (g := 194) rfl rfl rfl rfl hg191 (by decide) ?_
                              refine JR.gf (g := 194) rfl rfl rfl rfl hg191 (by decide) ?_
                              refine JR.gf (g := 194) rfl rfl rfl rfl hg191 (by decide) ?_
                              refine JR.gf (g := 194) rfl rfl rfl rfl hg191 (by decide) ?_
                              refine JR.gf (g := 194) rfl rfl rfl rfl hg191 (by decide) ?_
                              refine JR.ugt (g := 189) rfl rfl rfl rfl rfl hg186 (Yv.pick0 rfl hg191 rfl) (by decide) ?_
                              refine JR.ugt (g := 189) rfl rfl rfl rfl rfl hg186 (.move rfl) (by decide) ?_
                              refine JR.gf (g := 201) rfl rfl rfl rfl rfl (by decide) ?_
                              refine JR.gf (g := 201) rfl rfl rfl rfl rfl (by decide) ?_
                              refine JR.gf (g := 201) rfl rfl rfl rfl rfl (by decide) ?_
                              refine JR.gf (g := 201) rfl rfl rfl rfl rfl (by decide) ?_
                              refine JR.gf (g := 201) rfl rfl rfl rfl rfl (by decide) ?_
                              refine JR.ugt (g := 189) rfl rfl rfl rfl rfl hg186 (Yv.pick0 rfl rfl rfl) (by decide) ?_
                              refine JR.u rfl rfl rfl (Yv.pick0 rfl hg186 rfl) (by decide) ?_
                              refine .nil (.tn ?_)
                              refine .k0 rfl rfl ?_
                              refine .skip (.block_normal (.tn (.region ?_)))
                              refine .w (.move rfl) ?_
                              refine .w (.asI ((j + 1 : Nat) : Int) (.bin rfl rfl (BinR.add_i zqf))) ?_
                              refine .w (.assign rfl) ?_
                              refine .nil ?_
                              refine .hd (j + 1) ?_
                              exact ⟨by omega, by omega⟩
                        · have hg167' := hg167
                          try simp only [decide_eq_true_eq, decide_eq_false_iff_not, Bool.not_eq_true', Bool.not_eq_false', ne_eq, Decidable.not_not, Bool.not_eq_true, Bool.and_eq_true, Bool.or_eq_true, BitVec.reduceToNat] at hg167'
                          refine JR.ugt (g := 170) rfl rfl rfl rfl rfl hg167 (.move rfl) (by decide) ?_
                          refine JR.ugt (g := 170) rfl rfl rfl rfl rfl hg167 (.move rfl) (by decide) ?_
                          refine JR.vgt (g := 170) rfl rfl rfl rfl rfl hg167 (.ix1 Tryz.underlying37 sz_3 rfl rfl) (by decide) ?_
                          refine JR.vgt (g := 170) rfl rfl rfl rfl rfl hg167 (.as (v' := it lk) (.ld one_3 rfl (hj := by exact gm (d := 0) (by omega))) (congrArg it hlk.symm)) (by decide) ?_
                          refine JR.ugt (g := 170) rfl rfl rfl rfl rfl hg167 (.bin rfl rfl BinR.eql_i) (by decide) ?_
                          refine JR.ugt (g := 164) rfl rfl rfl rfl rfl hg161 (Yv.pick0 rfl hg167 rfl) (by decide) ?_
                          refine JR.ugt (g := 164) rfl rfl rfl rfl rfl hg161 (.move rfl) (by decide) ?_
                          refine JR.gsplit (g := 176) rfl (fun hg174 => ?_) (fun hg174 => ?_)
                          · have hg174' := hg174
                            try simp only [decide_eq_true_eq, decide_eq_false_iff_not, Bool.not_eq_true', Bool.not_eq_false', ne_eq, Decidable.not_not, Bool.not_eq_true, Bool.and_eq_true, Bool.or_eq_true, BitVec.reduceToNat] at hg174'
                            refine JR.ugt (g := 177) rfl rfl rfl rfl rfl hg174 (.move rfl) (by decide) ?_
                            refine JR.ugt (g := 177) rfl rfl rfl rfl rfl hg174 (.move rfl) (by decide) ?_
                            refine JR.vgt (g := 177) rfl rfl rfl rfl rfl hg174 (.ix1 Tryz.underlying37 sz_3 rfl rfl) (by decide) ?_
                            refine JR.vgt (g := 177) rfl rfl rfl rfl rfl hg174 (.as (v' := it fk) (.ld one_3 rfl (hj := by exact gm (d := 0) (by omega))) (congrArg it hfk.symm)) (by decide) ?_
                            refine JR.ugt (g := 177) rfl rfl rfl rfl rfl hg174 (.move rfl) (by decide) ?_
                            refine JR.ugt (g := 177) rfl rfl rfl rfl rfl hg174 (.move rfl) (by decide) ?_
                            refine JR.vgt (g := 177) rfl rfl rfl rfl rfl hg174 (.ix1 Tryz.underlying37 sz_3 rfl rfl) (by decide) ?_
                            refine JR.vgt (g := 177) rfl rfl rfl rfl rfl hg174 (.as (v' := it lk) (.ld one_3 rfl (hj := by exact gm (d := 0) (by omega))) (congrArg it hlk.symm)) (by decide) ?_
                            refine JR.ugt (g := 177) rfl rfl rfl rfl rfl hg174 (.bin rfl rfl BinR.neq_i) (by decide) ?_
                            refine JR.ugt (g := 164) rfl rfl rfl rfl rfl hg161 (Yv.pick1 rfl hg174 rfl) (by decide) ?_
                            refine JR.u rfl rfl rfl (Yv.pick0 rfl hg161 rfl) (by decide) ?_
                            refine .uw rfl (.move rfl) ?_
                            refine JR.gsplit (g := 188) rfl (fun hg186 => ?_) (fun hg186 => ?_)
                            · have hg186' := hg186
                              try simp only [decide_eq_true_eq, decide_eq_false_iff_not, Bool.not_eq_true', Bool.not_eq_false', ne_eq, Decidable.not_not, Bool.not_eq_true, Bool.and_eq_true, Bool.or_eq_true, BitVec.reduceToNat] at hg186'
                              exfalso
                              first | exact absurd hg186 (by decide) | exact hg186' (hck.2.2.2.1 (by first | exact .inl hg167' | exact .inr hg174')) --end
                            · have hg186' := hg186
                              try simp only [decide_eq_true_eq, decide_eq_false_iff_not, Bool.not_eq_true', Bool.not_eq_false', ne_eq, Decidable.not_not, Bool.not_eq_true, Bool.and_eq_true, Bool.or_eq_true, BitVec.reduceToNat] at hg186'
                              refine JR.ugt (g := 189) rfl rfl rfl rfl rfl hg186 (.move rfl) (by decide) ?_
                              refine JR.ugt (g := 189) rfl rfl rfl rfl rfl hg186 (.move rfl) (by decide) ?_
                              refine JR.vgt (g := 189) rfl rfl rfl rfl rfl hg186 (.ix1 Tryz.underlying36 sz_4 rfl rfl) (by decide) ?_
                              refine JR.vgt (g := 189) rfl rfl rfl rfl rfl hg186 (.as (v' := .bool rk) (.ld one_4 rfl (hj := by exact gm (d := false) (by omega))) (congrArg Value.bool hrk.symm)) (by decide) ?_
                              refine JR.ugt (g := 189) rfl rfl rfl rfl rfl hg186 (.move rfl) (by decide) ?_
                              refine JR.gsplit (g := 193) rfl (fun hg191 => ?_) (fun hg191 => ?_)
                              · have hg191' := hg191
                                try simp only [decide_eq_true_eq, decide_eq_false_iff_not, Bool.not_eq_true', Bool.not_eq_false', ne_eq, Decidable.not_not, Bool.not_eq_true, Bool.and_eq_true, Bool.or_eq_true, BitVec.reduceToNat] at hg191'
                                refine JR.ugt (g := 194) rfl rfl rfl rfl rfl hg191 (.move rfl) (by decide) ?_
                                refine JR.ugt (g := 194) rfl rfl rfl rfl rfl hg191 (.move rfl) (by decide) ?_
                                refine JR.vgt (g := 194) rfl rfl rfl rfl rfl hg191 (.ix1 Tryz.underlying37 sz_3 rfl rfl) (by decide) ?_
                                refine JR.vgt (g := 194) rfl rfl rfl rfl rfl hg191 (.as (v' := it fk) (.ld one_3 rfl (hj := by exact gm (d := 0) (by omega))) (congrArg it hfk.symm)) (by decide) ?_
                                refine JR.ugt (g := 194) rfl rfl rfl rfl rfl hg191 (.bin rfl rfl BinR.neq_i) (by decide) ?_
                                refine JR.ugt (g := 189) rfl rfl rfl rfl rfl hg186 (Yv.pick1 rfl hg191 rfl) (by decide) ?_
                                refine JR.ugt (g := 189) rfl rfl rfl rfl rfl hg186 (.move rfl) (by decide) ?_
                                refine JR.gsplit (g := 200) rfl (fun hg198 => ?_) (fun hg198 => ?_)
                                · have hg198' := hg198
                                  try simp only [decide_eq_true_eq, decide_eq_false_iff_not, Bool.not_eq_true', Bool.not_eq_false', ne_eq, Decidable.not_not, Bool.not_eq_true, Bool.and_eq_true, Bool.or_eq_true, BitVec.reduceToNat] at hg198'
                                  refine JR.ugt (g := 201) rfl rfl rfl rfl rfl hg198 (.move rfl) (by decide) ?_
                                  refine JR.ugt (g := 201) rfl rfl rfl rfl rfl hg198 (.move rfl) (by decide) ?_
                                  refine JR.vgt (g := 201) rfl rfl rfl rfl rfl hg198 (.ix1 Tryz.underlying37 sz_3 rfl rfl) (by decide) ?_
                                  refine JR.vgt (g := 201) rfl rfl rfl rfl rfl hg198 (.as (v' := it fk) (.ld one_3 rfl (hj := by exact gm (d := 0) (by omega))) (congrArg it hfk.symm)) (by decide) ?_
                                  refine JR.ugt (g := 201) rfl rfl rfl rfl rfl hg198 (.bin rfl rfl BinR.neq_i) (by decide) ?_
                                  refine JR.ugt (g := 189) rfl rfl rfl rfl rfl hg186 (Yv.pick1 rfl hg198 rfl) (by decide) ?_
                                  refine JR.u rfl rfl rfl (Yv.pick0 rfl hg186 rfl) (by decide) ?_
                                  refine .nil (.tn ?_)
                                  refine .cn rfl (fun hc7 => ?_) (fun hc7 => ?_)
                                  · exfalso
                                    first | exact absurd hc7 (by decide) | (have h5 := hck.2.2.2.2 (by assumption); omega)
                                  · skip
                                    refine .skip (.block_normal (.tn (.region ?_)))
                                    refine .w (.move rfl) ?_
                                    refine .w (.asI ((j + 1 : Nat) : Int) (.bin rfl rfl (BinR.add_i zqf))) ?_
                                    refine .w (.assign rfl) ?_
                                    refine .nil ?_
                                    refine .hd (j + 1) ?_
                                    exact ⟨by omega, by omega⟩
                                · have hg198' := hg198
                                  try simp only [decide_eq_true_eq, decide_eq_false_iff_not, Bool.not_eq_true', Bool.not_eq_false', ne_eq, Decidable.not_not, Bool.not_eq_true, Bool.and_eq_true, Bool.or_eq_true, BitVec.reduceToNat] at hg198'
                                  refine JR.gf (g := 201) rfl rfl rfl rfl hg198 (by decide) ?_
                                  refine JR.gf (g := 201) rfl rfl rfl rfl hg198 (by decide) ?_
                                  refine JR.gf (g := 201) rfl rfl rfl rfl hg198 (by decide) ?_
                                  refine JR.gf (g := 201) rfl rfl rfl rfl hg198 (by decide) ?_
                                  refine JR.gf (g := 201) rfl rfl rfl rfl hg198 (by decide) ?_
                                  refine JR.ugt (g := 189) rfl rfl rfl rfl rfl hg186 (Yv.pick0 rfl hg198 rfl) (by decide) ?_
                                  refine JR.u rfl rfl rfl (Yv.pick0 rfl hg186 rfl) (by decide) ?_
                                  refine .nil (.tn ?_)
                                  refine .k0 rfl rfl ?_
                                  refine .skip (.block_normal (.tn (.region ?_)))
                                  refine .w (.move rfl) ?_
                                  refine .w (.asI ((j + 1 : Nat) : Int) (.bin rfl rfl (BinR.add_i zqf))) ?_
                                  refine .w (.assign rfl) ?_
                                  refine .nil ?_
                                  refine .hd (j + 1) ?_
                                  exact ⟨by omega, by omega⟩
                              · have hg191' := hg191
                                try simp only [decide_eq_true_eq, decide_eq_false_iff_not, Bool.not_eq_true', Bool.not_eq_false', ne_eq, Decidable.not_not, Bool.not_eq_true, Bool.and_eq_true, Bool.or_eq_true, BitVec.reduceToNat] at hg191'
                                refine JR.gf (g := 194) rfl rfl rfl rfl hg191 (by decide) ?_
                                refine JR.gf (g := 194) rfl rfl rfl rfl hg191 (by decide) ?_
                                refine JR.gf (g := 194) rfl rfl rfl rfl hg191 (by decide) ?_
                                refine JR.gf (g := 194) rfl rfl rfl rfl hg191 (by decide) ?_
                                refine JR.gf (g := 194) rfl rfl rfl rfl hg191 (by decide) ?_
                                refine JR.ugt (g := 189) rfl rfl rfl rfl rfl hg186 (Yv.pick0 rfl hg191 rfl) (by decide) ?_
                                refine JR.ugt (g := 189) rfl rfl rfl rfl rfl hg186 (.move rfl) (by decide) ?_
                                refine JR.gf (g := 201) rfl rfl rfl rfl rfl (by decide) ?_
                                refine JR.gf (g := 201) rfl rfl rfl rfl rfl (by decide) ?_
                                refine JR.gf (g := 201) rfl rfl rfl rfl rfl (by decide) ?_
                                refine JR.gf (g := 201) rfl rfl rfl rfl rfl (by decide) ?_
                                refine JR.gf (g := 201) rfl rfl rfl rfl rfl (by decide) ?_
                                refine JR.ugt (g := 189) rfl rfl rfl rfl rfl hg186 (Yv.pick0 rfl rfl rfl) (by decide) ?_
                                refine JR.u rfl rfl rfl (Yv.pick0 rfl hg186 rfl) (by decide) ?_
                                refine .nil (.tn ?_)
                                refine .k0 rfl rfl ?_
                                refine .skip (.block_normal (.tn (.region ?_)))
                                refine .w (.move rfl) ?_
                                refine .w (.asI ((j + 1 : Nat) : Int) (.bin rfl rfl (BinR.add_i zqf))) ?_
                                refine .w (.assign rfl) ?_
                                refine .nil ?_
                                refine .hd (j + 1) ?_
                                exact ⟨by omega, by omega⟩
                          · have hg174' := hg174
                            try simp only [decide_eq_true_eq, decide_eq_false_iff_not, Bool.not_eq_true', Bool.not_eq_false', ne_eq, Decidable.not_not, Bool.not_eq_true, Bool.and_eq_true, Bool.or_eq_true, BitVec.reduceToNat] at hg174'
                            refine JR.gf (g := 177) rfl rfl rfl rfl hg174 (by decide) ?_
                            refine JR.gf (g := 177) rfl rfl rfl rfl hg174 (by decide) ?_
                            refine JR.gf (g := 177) rfl rfl rfl rfl hg174 (by decide) ?_
                            refine JR.gf (g := 177) rfl rfl rfl rfl hg174 (by decide) ?_
                            refine JR.gf (g := 177) rfl rfl rfl rfl hg174 (by decide) ?_
                            refine JR.gf (g := 177) rfl rfl rfl rfl hg174 (by decide) ?_
                            refine JR.gf (g := 177) rfl rfl rfl rfl hg174 (by decide) ?_
                            refine JR.gf (g := 177) rfl rfl rfl rfl hg174 (by decide) ?_
                            refine JR.gf (g := 177) rfl rfl rfl rfl hg174 (by decide) ?_
                            refine JR.ugt (g := 164) rfl rfl rfl rfl rfl hg161 (Yv.pick0 rfl hg174 rfl) (by decide) ?_
                            refine JR.u rfl rfl rfl (Yv.pick0 rfl hg161 rfl) (by decide) ?_
                            refine .uw rfl (.move rfl) ?_
                            refine JR.ugt (g := 189) rfl rfl rfl rfl rfl rfl (.move rfl) (by decide) ?_
                            refine JR.ugt (g := 189) rfl rfl rfl rfl rfl rfl (.move rfl) (by decide) ?_
                            refine JR.vgt (g := 189) rfl rfl rfl rfl rfl rfl (.ix1 Tryz.underlying36 sz_4 rfl rfl) (by decide) ?_
                            refine JR.vgt (g := 189) rfl rfl rfl rfl rfl rfl (.as (v' := .bool rk) (.ld one_4 rfl (hj := by exact gm (d := false) (by omega))) (congrArg Value.bool hrk.symm)) (by decide) ?_
                            refine JR.ugt (g := 189) rfl rfl rfl rfl rfl rfl (.move rfl) (by decide) ?_
                            refine JR.gsplit (g := 193) rfl (fun hg191 => ?_) (fun hg191 => ?_)
                            · have hg191' := hg191
                              try simp only [decide_eq_true_eq, decide_eq_false_iff_not, Bool.not_eq_true', Bool.not_eq_false', ne_eq, Decidable.not_not, Bool.not_eq_true, Bool.and_eq_true, Bool.or_eq_true, BitVec.reduceToNat] at hg191'
                              refine JR.ugt (g := 194) rfl rfl rfl rfl rfl hg191 (.move rfl) (by decide) ?_
                              refine JR.ugt (g := 194) rfl rfl rfl rfl rfl hg191 (.move rfl) (by decide) ?_
                              refine JR.vgt (g := 194) rfl rfl rfl rfl rfl hg191 (.ix1 Tryz.underlying37 sz_3 rfl rfl) (by decide) ?_
                              refine JR.vgt (g := 194) rfl rfl rfl rfl rfl hg191 (.as (v' := it fk) (.ld one_3 rfl (hj := by exact gm (d := 0) (by omega))) (congrArg it hfk.symm)) (by decide) ?_
                              refine JR.ugt (g := 194) rfl rfl rfl rfl rfl hg191 (.bin rfl rfl BinR.neq_i) (by decide) ?_
                              refine JR.ugt (g := 189) rfl rfl rfl rfl rfl rfl (Yv.pick1 rfl hg191 rfl) (by decide) ?_
                              refine JR.ugt (g := 189) rfl rfl rfl rfl rfl rfl (.move rfl) (by decide) ?_
                              refine JR.gsplit (g := 200) rfl (fun hg198 => ?_) (fun hg198 => ?_)
                              · have hg198' := hg198
                                try simp only [decide_eq_true_eq, decide_eq_false_iff_not, Bool.not_eq_true', Bool.not_eq_false', ne_eq, Decidable.not_not, Bool.not_eq_true, Bool.and_eq_true, Bool.or_eq_true, BitVec.reduceToNat] at hg198'
                                refine JR.ugt (g := 201) rfl rfl rfl rfl rfl hg198 (.move rfl) (by decide) ?_
                                refine JR.ugt (g := 201) rfl rfl rfl rfl rfl hg198 (.move rfl) (by decide) ?_
                                refine JR.vgt (g := 201) rfl rfl rfl rfl rfl hg198 (.ix1 Tryz.underlying37 sz_3 rfl rfl) (by decide) ?_
                                refine JR.vgt (g := 201) rfl rfl rfl rfl rfl hg198 (.as (v' := it fk) (.ld one_3 rfl (hj := by exact gm (d := 0) (by omega))) (congrArg it hfk.symm)) (by decide) ?_
                                refine JR.ugt (g := 201) rfl rfl rfl rfl rfl hg198 (.bin rfl rfl BinR.neq_i) (by decide) ?_
                                refine JR.ugt (g := 189) rfl rfl rfl rfl rfl rfl (Yv.pick1 rfl hg198 rfl) (by decide) ?_
                                refine JR.u rfl rfl rfl (Yv.pick0 rfl rfl rfl) (by decide) ?_
                                refine .nil (.tn ?_)
                                refine .cn rfl (fun hc7 => ?_) (fun hc7 => ?_)
                                · exfalso
                                  first | exact absurd hc7 (by decide) | (have h5 := hck.2.2.2.2 (by assumption); omega)
                                · skip
                                  refine .skip (.block_normal (.tn (.region ?_)))
                                  refine .w (.move rfl) ?_
                                  refine .w (.asI ((j + 1 : Nat) : Int) (.bin rfl rfl (BinR.add_i zqf))) ?_
                                  refine .w (.assign rfl) ?_
                                  refine .nil ?_
                                  refine .hd (j + 1) ?_
                                  exact ⟨by omega, by omega⟩
                              · have hg198' := hg198
                                try simp only [decide_eq_true_eq, decide_eq_false_iff_not, Bool.not_eq_true', Bool.not_eq_false', ne_eq, Decidable.not_not, Bool.not_eq_true, Bool.and_eq_true, Bool.or_eq_true, BitVec.reduceToNat] at hg198'
                                refine JR.gf (g := 201) rfl rfl rfl rfl hg198 (by decide) ?_
                                refine JR.gf (g := 201) rfl rfl rfl rfl hg198 (by decide) ?_
                                refine JR.gf (g := 201) rfl rfl rfl rfl hg198 (by decide) ?_
                                refine JR.gf (g := 201) rfl rfl rfl rfl hg198 (by decide) ?_
                                refine JR.gf (g := 201) rfl rfl rfl rfl hg198 (by decide) ?_
                                refine JR.ugt (g := 189) rfl rfl rfl rfl rfl rfl (Yv.pick0 rfl hg198 rfl) (by decide) ?_
                                refine JR.u rfl rfl rfl (Yv.pick0 rfl rfl rfl) (by decide) ?_
                                refine .nil (.tn ?_)
                                refine .k0 rfl rfl ?_
                                refine .skip (.block_normal (.tn (.region ?_)))
                                refine .w (.move rfl) ?_
                                refine .w (.asI ((j + 1 : Nat) : Int) (.bin rfl rfl (BinR.add_i zqf))) ?_
                                refine .w (.assign rfl) ?_
                                refine .nil ?_
                                refine .hd (j + 1) ?_
                                exact ⟨by omega, by omega⟩
                            · have hg191' := hg191
                              try simp only [decide_eq_true_eq, decide_eq_false_iff_not, Bool.not_eq_true', Bool.not_eq_false', ne_eq, Decidable.not_not, Bool.not_eq_true, Bool.and_eq_true, Bool.or_eq_true, BitVec.reduceToNat] at hg191'
                              refine JR.gf (g := 194) rfl rfl rfl rfl hg191 (by decide) ?_
                              refine JR.gf (g := 194) rfl rfl rfl rfl hg191 (by decide) ?_
                              refine JR.gf (g := 194) rfl rfl rfl rfl hg191 (by decide) ?_
                              refine JR.gf (g := 194) rfl rfl rfl rfl hg191 (by decide) ?_
                              refine JR.gf (g := 194) rfl rfl rfl rfl hg191 (by decide) ?_
                              refine JR.ugt (g := 189) rfl rfl rfl rfl rfl rfl (Yv.pick0 rfl hg191 rfl) (by decide) ?_
                              refine JR.ugt (g := 189) rfl rfl rfl rfl rfl rfl (.move rfl) (by decide) ?_
                              refine JR.gf (g := 201) rfl rfl rfl rfl rfl (by decide) ?_
                              refine JR.gf (g := 201) rfl rfl rfl rfl rfl (by decide) ?_
                              refine JR.gf (g := 201) rfl rfl rfl rfl rfl (by decide) ?_
                              refine JR.gf (g := 201) rfl rfl rfl rfl rfl (by decide) ?_
                              refine JR.gf (g := 201) rfl rfl rfl rfl rfl (by decide) ?_
                              refine JR.ugt (g := 189) rfl rfl rfl rfl rfl rfl (Yv.pick0 rfl rfl rfl) (by decide) ?_
                              refine JR.u rfl rfl rfl (Yv.pick0 rfl rfl rfl) (by decide) ?_
                              refine .nil (.tn ?_)
                              refine .k0 rfl rfl ?_
                              refine .skip (.block_normal (.tn (.region ?_)))
                              refine .w (.move rfl) ?_
                              refine .w (.asI ((j + 1 : Nat) : Int) (.bin rfl rfl (BinR.add_i zqf))) ?_
                              refine .w (.assign rfl) ?_
                              refine .nil ?_
                              refine .hd (j + 1) ?_
                              exact ⟨by omega, by omega⟩
                    · have hg153' := hg153
                      try simp only [decide_eq_true_eq, decide_eq_false_iff_not, Bool.not_eq_true', Bool.not_eq_false', ne_eq, Decidable.not_not, Bool.not_eq_true, Bool.and_eq_true, Bool.or_eq_true, BitVec.reduceToNat] at hg153'
                      refine JR.gf (g := 156) rfl rfl rfl rfl hg153 (by decide) ?_
                      refine JR.gf (g := 156) rfl rfl rfl rfl hg153 (by decide) ?_
                      refine JR.gf (g := 156) rfl rfl rfl rfl hg153 (by decide) ?_
                      refine JR.gf (g := 156) rfl rfl rfl rfl hg153 (by decide) ?_
                      refine JR.gf (g := 156) rfl rfl rfl rfl hg153 (by decide) ?_
                      refine JR.ugt (g := 150) rfl rfl rfl rfl rfl hg147 (Yv.pick0 rfl hg153 rfl) (by decide) ?_
                      refine JR.u rfl rfl rfl (Yv.pick0 rfl hg147 rfl) (by decide) ?_
                      refine .uw rfl (.move rfl) ?_
                      refine JR.ugt (g := 164) rfl rfl rfl rfl rfl rfl (.move rfl) (by decide) ?_
                      refine JR.ugt (g := 164) rfl rfl rfl rfl rfl rfl (.move rfl) (by decide) ?_
                      refine JR.vgt (g := 164) rfl rfl rfl rfl rfl rfl (.ix1 Tryz.underlying37 sz_3 rfl rfl) (by decide) ?_
                      refine JR.vgt (g := 164) rfl rfl rfl rfl rfl rfl (.as (v' := it lk) (.ld one_3 rfl (hj := by exact gm (d := 0) (by omega))) (congrArg it hlk.symm)) (by decide) ?_
                      refine JR.ugt (g := 164) rfl rfl rfl rfl rfl rfl (.bin rfl rfl BinR.eql_i) (by decide) ?_
                      refine JR.ugt (g := 164) rfl rfl rfl rfl rfl rfl (.move rfl) (by decide) ?_
                      refine JR.gsplit (g := 169) rfl (fun hg167 => ?_) (fun hg167 => ?_)
                      · have hg167' := hg167
                        try simp only [decide_eq_true_eq, decide_eq_false_iff_not, Bool.not_eq_true', Bool.not_eq_false', ne_eq, Decidable.not_not, Bool.not_eq_true, Bool.and_eq_true, Bool.or_eq_true, BitVec.reduceToNat] at hg167'
                        refine JR.gf (g := 170) rfl rfl rfl rfl hg167 (by decide) ?_
                        refine JR.gf (g := 170) rfl rfl rfl rfl hg167 (by decide) ?_
                        refine JR.gf (g := 170) rfl rfl rfl rfl hg167 (by decide) ?_
                        refine JR.gf (g := 170) rfl rfl rfl rfl hg167 (by decide) ?_
                        refine JR.gf (g := 170) rfl rfl rfl rfl hg167 (by decide) ?_
                        refine JR.ugt (g := 164) rfl rfl rfl rfl rfl rfl (Yv.pick1 rfl hg167 rfl) (by decide) ?_
                        refine JR.ugt (g := 164) rfl rfl rfl rfl rfl rfl (.move rfl) (by decide) ?_
                        refine JR.ugt (g := 177) rfl rfl rfl rfl rfl rfl (.move rfl) (by decide) ?_
                        refine JR.ugt (g := 177) rfl rfl rfl rfl rfl rfl (.move rfl) (by decide) ?_
                        refine JR.vgt (g := 177) rfl rfl rfl rfl rfl rfl (.ix1 Tryz.underlying37 sz_3 rfl rfl) (by decide) ?_
                        refine JR.vgt (g := 177) rfl rfl rfl rfl rfl rfl (.as (v' := it fk) (.ld one_3 rfl (hj := by exact gm (d := 0) (by omega))) (congrArg it hfk.symm)) (by decide) ?_
                        refine JR.ugt (g := 177) rfl rfl rfl rfl rfl rfl (.move rfl) (by decide) ?_
                        refine JR.ugt (g := 177) rfl rfl rfl rfl rfl rfl (.move rfl) (by decide) ?_
                        refine JR.vgt (g := 177) rfl rfl rfl rfl rfl rfl (.ix1 Tryz.underlying37 sz_3 rfl rfl) (by decide) ?_
                        refine JR.vgt (g := 177) rfl rfl rfl rfl rfl rfl (.as (v' := it lk) (.ld one_3 rfl (hj := by exact gm (d := 0) (by omega))) (congrArg it hlk.symm)) (by decide) ?_
                        refine JR.ugt (g := 177) rfl rfl rfl rfl rfl rfl (.bin rfl rfl BinR.neq_i) (by decide) ?_
                        refine JR.ugt (g := 164) rfl rfl rfl rfl rfl rfl (Yv.pick1 rfl rfl rfl) (by decide) ?_
                        refine JR.u rfl rfl rfl (Yv.pick0 rfl rfl rfl) (by decide) ?_
                        refine .uw rfl (.move rfl) ?_
                        refine JR.gsplit (g := 188) rfl (fun hg186 => ?_) (fun hg186 => ?_)
                        · have hg186' := hg186
                          try simp only [decide_eq_true_eq, decide_eq_false_iff_not, Bool.not_eq_true', Bool.not_eq_false', ne_eq, Decidable.not_not, Bool.not_eq_true, Bool.and_eq_true, Bool.or_eq_true, BitVec.reduceToNat] at hg186'
                          exfalso
                          first | exact absurd hg186 (by decide) | exact hg186' (hck.2.2.2.1 (by first | exact .inl hg167' | exact .inr hg174')) --end
                        · have hg186' := hg186
                          try simp only [decide_eq_true_eq, decide_eq_false_iff_not, Bool.not_eq_true', Bool.not_eq_false', ne_eq, Decidable.not_not, Bool.not_eq_true, Bool.and_eq_true, Bool.or_eq_true, BitVec.reduceToNat] at hg186'
                          refine JR.ugt (g := 189) rfl rfl rfl rfl rfl hg186 (.move rfl) (by decide) ?_
                          refine JR.ugt (g := 189) rfl rfl rfl rfl rfl hg186 (.move rfl) (by decide) ?_
                          refine JR.vgt (g := 189) rfl rfl rfl rfl rfl hg186 (.ix1 Tryz.underlying36 sz_4 rfl rfl) (by decide) ?_
                          refine JR.vgt (g := 189) rfl rfl rfl rfl rfl hg186 (.as (v' := .bool rk) (.ld one_4 rfl (hj := by exact gm (d := false) (by omega))) (congrArg Value.bool hrk.symm)) (by decide) ?_
                          refine JR.ugt (g := 189) rfl rfl rfl rfl rfl hg186 (.move rfl) (by decide) ?_
                          refine JR.gsplit (g := 193) rfl (fun hg191 => ?_) (fun hg191 => ?_)
                          · have hg191' := hg191
                            try simp only [decide_eq_true_eq, decide_eq_false_iff_not, Bool.not_eq_true', Bool.not_eq_false', ne_eq, Decidable.not_not, Bool.not_eq_true, Bool.and_eq_true, Bool.or_eq_true, BitVec.reduceToNat] at hg191'
                            refine JR.ugt (g := 194) rfl rfl rfl rfl rfl hg191 (.move rfl) (by decide) ?_
                            refine JR.ugt (g := 194) rfl rfl rfl rfl rfl hg191 (.move rfl) (by decide) ?_
                            refine JR.vgt (g := 194) rfl rfl rfl rfl rfl hg191 (.ix1 Tryz.underlying37 sz_3 rfl rfl) (by decide) ?_
                            refine JR.vgt (g := 194) rfl rfl rfl rfl rfl hg191 (.as (v' := it fk) (.ld one_3 rfl (hj := by exact gm (d := 0) (by omega))) (congrArg it hfk.symm)) (by decide) ?_
                            refine JR.ugt (g := 194) rfl rfl rfl rfl rfl hg191 (.bin rfl rfl BinR.neq_i) (by decide) ?_
                            refine JR.ugt (g := 189) rfl rfl rfl rfl rfl hg186 (Yv.pick1 rfl hg191 rfl) (by decide) ?_
                            refine JR.ugt (g := 189) rfl rfl rfl rfl rfl hg186 (.move rfl) (by decide) ?_
                            refine JR.gsplit (g := 200) rfl (fun hg198 => ?_) (fun hg198 => ?_)
                            · have hg198' := hg198
                              try simp only [decide_eq_true_eq, decide_eq_false_iff_not, Bool.not_eq_true', Bool.not_eq_false', ne_eq, Decidable.not_not, Bool.not_eq_true, Bool.and_eq_true, Bool.or_eq_true, BitVec.reduceToNat] at hg198'
                              refine JR.ugt (g := 201) rfl rfl rfl rfl rfl hg198 (.move rfl) (by decide) ?_
                              refine JR.ugt (g := 201) rfl rfl rfl rfl rfl hg198 (.move rfl) (by decide) ?_
                              refine JR.vgt (g := 201) rfl rfl rfl rfl rfl hg198 (.ix1 Tryz.underlying37 sz_3 rfl rfl) (by decide) ?_
                              refine JR.vgt (g := 201) rfl rfl rfl rfl rfl hg198 (.as (v' := it fk) (.ld one_3 rfl (hj := by exact gm (d := 0) (by omega))) (congrArg it hfk.symm)) (by decide) ?_
                              refine JR.ugt (g := 201) rfl rfl rfl rfl rfl hg198 (.bin rfl rfl BinR.neq_i) (by decide) ?_
                              refine JR.ugt (g := 189) rfl rfl rfl rfl rfl hg186 (Yv.pick1 rfl hg198 rfl) (by decide) ?_
                              refine JR.u rfl rfl rfl (Yv.pick0 rfl hg186 rfl) (by decide) ?_
                              refine .nil (.tn ?_)
                              refine .cn rfl (fun hc7 => ?_) (fun hc7 => ?_)
                              · exfalso
                                first | exact absurd hc7 (by decide) | (have h5 := hck.2.2.2.2 (by assumption); omega)
                              · skip
                                refine .skip (.block_normal (.tn (.region ?_)))
                                refine .w (.move rfl) ?_
                                refine .w (.asI ((j + 1 : Nat) : Int) (.bin rfl rfl (BinR.add_i zqf))) ?_
                                refine .w (.assign rfl) ?_
                                refine .nil ?_
                                refine .hd (j + 1) ?_
                                exact ⟨by omega, by omega⟩
                            · have hg198' := hg198
                              try simp only [decide_eq_true_eq, decide_eq_false_iff_not, Bool.not_eq_true', Bool.not_eq_false', ne_eq, Decidable.not_not, Bool.not_eq_true, Bool.and_eq_true, Bool.or_eq_true, BitVec.reduceToNat] at hg198'
                              refine JR.gf (g := 201) rfl rfl rfl rfl hg198 (by decide) ?_
                              refine JR.gf (g := 201) rfl rfl rfl rfl hg198 (by decide) ?_
                              refine JR.gf (g := 201) rfl rfl rfl rfl hg198 (by decide) ?_
                              refine JR.gf (g := 201) rfl rfl rfl rfl hg198 (by decide) ?_
                              refine JR.gf (g := 201) rfl rfl rfl rfl hg198 (by decide) ?_
                              refine JR.ugt (g := 189) rfl rfl rfl rfl rfl hg186 (Yv.pick0 rfl hg198 rfl) (by decide) ?_
                              refine JR.u rfl rfl rfl (Yv.pick0 rfl hg186 rfl) (by decide) ?_
                              refine .nil (.tn ?_)
                              refine .k0 rfl rfl ?_
                              refine .skip (.block_normal (.tn (.region ?_)))
                              refine .w (.move rfl) ?_
                              refine .w (.asI ((j + 1 : Nat) : Int) (.bin rfl rfl (BinR.add_i zqf))) ?_
                              refine .w (.assign rfl) ?_
                              refine .nil ?_
                              refine .hd (j + 1) ?_
                              exact ⟨by omega, by omega⟩
                          · have hg191' := hg191
                            try simp only [decide_eq_true_eq, decide_eq_false_iff_not, Bool.not_eq_true', Bool.not_eq_false', ne_eq, Decidable.not_not, Bool.not_eq_true, Bool.and_eq_true, Bool.or_eq_true, BitVec.reduceToNat] at hg191'
                            refine JR.gf (g := 194) rfl rfl rfl rfl hg191 (by decide) ?_
                            refine JR.gf (g := 194) rfl rfl rfl rfl hg191 (by decide) ?_
                            refine JR.gf (g := 194) rfl rfl rfl rfl hg191 (by decide) ?_
                            refine JR.gf (g := 194) rfl rfl rfl rfl hg191 (by decide) ?_
                            refine JR.gf (g := 194) rfl rfl rfl rfl hg191 (by decide) ?_
                            refine JR.ugt (g := 189) rfl rfl rfl rfl rfl hg186 (Yv.pick0 rfl hg191 rfl) (by decide) ?_
                            refine JR.ugt (g := 189) rfl rfl rfl rfl rfl hg186 (.move rfl) (by decide) ?_
                            refine JR.gf (g := 201) rfl rfl rfl rfl rfl (by decide) ?_
                            refine JR.gf (g := 201) rfl rfl rfl rfl rfl (by decide) ?_
                            refine JR.gf (g := 201) rfl rfl rfl rfl rfl (by decide) ?_
                            refine JR.gf (g := 201) rfl rfl rfl rfl rfl (by decide) ?_
                            refine JR.gf (g := 201) rfl rfl rfl rfl rfl (by decide) ?_
                            refine JR.ugt (g := 189) rfl rfl rfl rfl rfl hg186 (Yv.pick0 rfl rfl rfl) (by decide) ?_
                            refine JR.u rfl rfl rfl (Yv.pick0 rfl hg186 rfl) (by decide) ?_
                            refine .nil (.tn ?_)
                            refine .k0 rfl rfl ?_
                            refine .skip (.block_normal (.tn (.region ?_)))
                            refine .w (.move rfl) ?_
                            refine .w (.asI ((j + 1 : Nat) : Int) (.bin rfl rfl (BinR.add_i zqf))) ?_
                            refine .w (.assign rfl) ?_
                            refine .nil ?_
                            refine .hd (j + 1) ?_
                            exact ⟨by omega, by omega⟩
                      · have hg167' := hg167
                        try simp only [decide_eq_true_eq, decide_eq_false_iff_not, Bool.not_eq_true', Bool.not_eq_false', ne_eq, Decidable.not_not, Bool.not_eq_true, Bool.and_eq_true, Bool.or_eq_true, BitVec.reduceToNat] at hg167'
                        refine JR.ugt (g := 170) rfl rfl rfl rfl rfl hg167 (.move rfl) (by decide) ?_
                        refine JR.ugt (g := 170) rfl rfl rfl rfl rfl hg167 (.move rfl) (by decide) ?_
                        refine JR.vgt (g := 170) rfl rfl rfl rfl rfl hg167 (.ix1 Tryz.underlying37 sz_3 rfl rfl) (by decide) ?_
                        refine JR.vgt (g := 170) rfl rfl rfl rfl rfl hg167 (.as (v' := it lk) (.ld one_3 rfl (hj := by exact gm (d := 0) (by omega))) (congrArg it hlk.symm)) (by decide) ?_
                        refine JR.ugt (g := 170) rfl rfl rfl rfl rfl hg167 (.bin rfl rfl BinR.eql_i) (by decide) ?_
                        refine JR.ugt (g := 164) rfl rfl rfl rfl rfl rfl (Yv.pick0 rfl hg167 rfl) (by decide) ?_
                        refine JR.ugt (g := 164) rfl rfl rfl rfl rfl rfl (.move rfl) (by decide) ?_
                        refine JR.gsplit (g := 176) rfl (fun hg174 => ?_) (fun hg174 => ?_)
                        · have hg174' := hg174
                          try simp only [decide_eq_true_eq, decide_eq_false_iff_not, Bool.not_eq_true', Bool.not_eq_false', ne_eq, Decidable.not_not, Bool.not_eq_true, Bool.and_eq_true, Bool.or_eq_true, BitVec.reduceToNat] at hg174'
                          refine JR.ugt (g := 177) rfl rfl rfl rfl rfl hg174 (.move rfl) (by decide) ?_
                          refine JR.ugt (g := 177) rfl rfl rfl rfl rfl hg174 (.move rfl) (by decide) ?_
                          refine JR.vgt (g := 177) rfl rfl rfl rfl rfl hg174 (.ix1 Tryz.underlying37 sz_3 rfl rfl) (by decide) ?_
                          refine JR.vgt (g := 177) rfl rfl rfl rfl rfl hg174 (.as (v' := it fk) (.ld one_3 rfl (hj := by exact gm (d := 0) (by omega))) (congrArg it hfk.symm)) (by decide) ?_
                          refine JR.ugt (g := 177) rfl rfl rfl rfl rfl hg174 (.move rfl) (by decide) ?_
                          refine JR.ugt (g := 177) rfl rfl rfl rfl rfl hg174 (.move rfl) (by decide) ?_
                          refine JR.vgt (g := 177) rfl rfl rfl rfl rfl hg174 (.ix1 Tryz.underlying37 sz_3 rfl rfl) (by decide) ?_
                          refine JR.vgt (g := 177) rfl rfl rfl rfl rfl hg174 (.as (v' := it lk) (.ld one_3 rfl (hj := by exact gm (d := 0) (by omega))) (congrArg it hlk.symm)) (by decide) ?_
                          refine JR.ugt (g := 177) rfl rfl rfl rfl rfl hg174 (.bin rfl rfl BinR.neq_i) (by decide) ?_
                          refine JR.ugt (g := 164) rfl rfl rfl rfl rfl rfl (Yv.pick1 rfl hg174 rfl) (by decide) ?_
                          refine JR.u rfl rfl rfl (Yv.pick0 rfl rfl rfl) (by decide) ?_
                          refine .uw rfl (.move rfl) ?_
                          refine JR.gsplit (g := 188) rfl (fun hg186 => ?_) (fun hg186 => ?_)
                          · have hg186' := hg186
                            try simp only [decide_eq_true_eq, decide_eq_false_iff_not, Bool.not_eq_true', Bool.not_eq_false', ne_eq, Decidable.not_not, Bool.not_eq_true, Bool.and_eq_true, Bool.or_eq_true, BitVec.reduceToNat] at hg186'
                            exfalso
                            first | exact absurd hg186 (by decide) | exact hg186' (hck.2.2.2.1 (by first | exact .inl hg167' | exact .inr hg174')) --end
                          · have hg186' := hg186
                            try simp only [decide_eq_true_eq, decide_eq_false_iff_not, Bool.not_eq_true', Bool.not_eq_false', ne_eq, Decidable.not_not, Bool.not_eq_true, Bool.and_eq_true, Bool.or_eq_true, BitVec.reduceToNat] at hg186'
                            refine JR.ugt (g := 189) rfl rfl rfl rfl rfl hg186 (.move rfl) (by decide) ?_
                            refine JR.ugt (g := 189) rfl rfl rfl rfl rfl hg186 (.move rfl) (by decide) ?_
                            refine JR.vgt (g := 189) rfl rfl rfl rfl rfl hg186 (.ix1 Tryz.underlying36 sz_4 rfl rfl) (by decide) ?_
                            refine JR.vgt (g := 189) rfl rfl rfl rfl rfl hg186 (.as (v' := .bool rk) (.ld one_4 rfl (hj := by exact gm (d := false) (by omega))) (congrArg Value.bool hrk.symm)) (by decide) ?_
                            refine JR.ugt (g := 189) rfl rfl rfl rfl rfl hg186 (.move rfl) (by decide) ?_
                            refine JR.gsplit (g := 193) rfl (fun hg191 => ?_) (fun hg191 => ?_)
                            · have hg191' := hg191
                              try simp only [decide_eq_true_eq, decide_eq_false_iff_not, Bool.not_eq_true', Bool.not_eq_false', ne_eq, Decidable.not_not, Bool.not_eq_true, Bool.and_eq_true, Bool.or_eq_true, BitVec.reduceToNat] at hg191'
                              refine JR.ugt (g := 194) rfl rfl rfl rfl rfl hg191 (.move rfl) (by decide) ?_
                              refine JR.ugt (g := 194) rfl rfl rfl rfl rfl hg191 (.move rfl) (by decide) ?_
                              refine JR.vgt (g := 194) rfl rfl rfl rfl rfl hg191 (.ix1 Tryz.underlying37 sz_3 rfl rfl) (by decide) ?_
                              refine JR.vgt (g := 194) rfl rfl rfl rfl rfl hg191 (.as (v' := it fk) (.ld one_3 rfl (hj := by exact gm (d := 0) (by omega))) (congrArg it hfk.symm)) (by decide) ?_
                              refine JR.ugt (g := 194) rfl rfl rfl rfl rfl hg191 (.bin rfl rfl BinR.neq_i) (by decide) ?_
                              refine JR.ugt (g := 189) rfl rfl rfl rfl rfl hg186 (Yv.pick1 rfl hg191 rfl) (by decide) ?_
                              refine JR.ugt (g := 189) rfl rfl rfl rfl rfl hg186 (.move rfl) (by decide) ?_
                              refine JR.gsplit (g := 200) rfl (fun hg198 => ?_) (fun hg198 => ?_)
                              · have hg198' := hg198
                                try simp only [decide_eq_true_eq, decide_eq_false_iff_not, Bool.not_eq_true', Bool.not_eq_false', ne_eq, Decidable.not_not, Bool.not_eq_true, Bool.and_eq_true, Bool.or_eq_true, BitVec.reduceToNat] at hg198'
                                refine JR.ugt (g := 201) rfl rfl rfl rfl rfl hg198 (.move rfl) (by decide) ?_
                                refine JR.ugt (g := 201) rfl rfl rfl rfl rfl hg198 (.move rfl) (by decide) ?_
                                refine JR.vgt (g := 201) rfl rfl rfl rfl rfl hg198 (.ix1 Tryz.underlying37 sz_3 rfl rfl) (by decide) ?_
                                refine JR.vgt (g := 201) rfl rfl rfl rfl rfl hg198 (.as (v' := it fk) (.ld one_3 rfl (hj := by exact gm (d := 0) (by omega))) (congrArg it hfk.symm)) (by decide) ?_
                                refine JR.ugt (g := 201) rfl rfl rfl rfl rfl hg198 (.bin rfl rfl BinR.neq_i) (by decide) ?_
                                refine JR.ugt (g := 189) rfl rfl rfl rfl rfl hg186 (Yv.pick1 rfl hg198 rfl) (by decide) ?_
                                refine JR.u rfl rfl rfl (Yv.pick0 rfl hg186 rfl) (by decide) ?_
                                refine .nil (.tn ?_)
                                refine .cn rfl (fun hc7 => ?_) (fun hc7 => ?_)
                                · exfalso
                                  first | exact absurd hc7 (by decide) | (have h5 := hck.2.2.2.2 (by assumption); omega)
                                · skip
                                  refine .skip (.block_normal (.tn (.region ?_)))
                                  refine .w (.move rfl) ?_
                                  refine .w (.asI ((j + 1 : Nat) : Int) (.bin rfl rfl (BinR.add_i zqf))) ?_
                                  refine .w (.assign rfl) ?_
                                  refine .nil ?_
                                  refine .hd (j + 1) ?_
                                  exact ⟨by omega, by omega⟩
                              · have hg198' := hg198
                                try simp only [decide_eq_true_eq, decide_eq_false_iff_not, Bool.not_eq_true', Bool.not_eq_false', ne_eq, Decidable.not_not, Bool.not_eq_true, Bool.and_eq_true, Bool.or_eq_true, BitVec.reduceToNat] at hg198'
                                refine JR.gf (g := 201) rfl rfl rfl rfl hg198 (by decide) ?_
                                refine JR.gf (g := 201) rfl rfl rfl rfl hg198 (by decide) ?_
                                refine JR.gf (g := 201) rfl rfl rfl rfl hg198 (by decide) ?_
                                refine JR.gf (g := 201) rfl rfl rfl rfl hg198 (by decide) ?_
                                refine JR.gf (g := 201) rfl rfl rfl rfl hg198 (by decide) ?_
                                refine JR.ugt (g := 189) rfl rfl rfl rfl rfl hg186 (Yv.pick0 rfl hg198 rfl) (by decide) ?_
                                refine JR.u rfl rfl rfl (Yv.pick0 rfl hg186 rfl) (by decide) ?_
                                refine .nil (.tn ?_)
                                refine .k0 rfl rfl ?_
                                refine .skip (.block_normal (.tn (.region ?_)))
                                refine .w (.move rfl) ?_
                                refine .w (.asI ((j + 1 : Nat) : Int) (.bin rfl rfl (BinR.add_i zqf))) ?_
                                refine .w (.assign rfl) ?_
                                refine .nil ?_
                                refine .hd (j + 1) ?_
                                exact ⟨by omega, by omega⟩
                            · have hg191' := hg191
                              try simp only [decide_eq_true_eq, decide_eq_false_iff_not, Bool.not_eq_true', Bool.not_eq_false', ne_eq, Decidable.not_not, Bool.not_eq_true, Bool.and_eq_true, Bool.or_eq_true, BitVec.reduceToNat] at hg191'
                              refine JR.gf (g := 194) rfl rfl rfl rfl hg191 (by decide) ?_
                              refine JR.gf (g := 194) rfl rfl rfl rfl hg191 (by decide) ?_
                              refine JR.gf (g := 194) rfl rfl rfl rfl hg191 (by decide) ?_
                              refine JR.gf (g := 194) rfl rfl rfl rfl hg191 (by decide) ?_
                              refine JR.gf (g := 194) rfl rfl rfl rfl hg191 (by decide) ?_
                              refine JR.ugt (g := 189) rfl rfl rfl rfl rfl hg186 (Yv.pick0 rfl hg191 rfl) (by decide) ?_
                              refine JR.ugt (g := 189) rfl rfl rfl rfl rfl hg186 (.move rfl) (by decide) ?_
                              refine JR.gf (g := 201) rfl rfl rfl rfl rfl (by decide) ?_
                              refine JR.gf (g := 201) rfl rfl rfl rfl rfl (by decide) ?_
                              refine JR.gf (g := 201) rfl rfl rfl rfl rfl (by decide) ?_
                              refine JR.gf (g := 201) rfl rfl rfl rfl rfl (by decide) ?_
                              refine JR.gf (g := 201) rfl rfl rfl rfl rfl (by decide) ?_
                              refine JR.ugt (g := 189) rfl rfl rfl rfl rfl hg186 (Yv.pick0 rfl rfl rfl) (by decide) ?_
                              refine JR.u rfl rfl rfl (Yv.pick0 rfl hg186 rfl) (by decide) ?_
                              refine .nil (.tn ?_)
                              refine .k0 rfl rfl ?_
                              refine .skip (.block_normal (.tn (.region ?_)))
                              refine .w (.move rfl) ?_
                              refine .w (.asI ((j + 1 : Nat) : Int) (.bin rfl rfl (BinR.add_i zqf))) ?_
                              refine .w (.assign rfl) ?_
                              refine .nil ?_
                              refine .hd (j + 1) ?_
                              exact ⟨by omega, by omega⟩
                        · have hg174' := hg174
                          try simp only [decide_eq_true_eq, decide_eq_false_iff_not, Bool.not_eq_true', Bool.not_eq_false', ne_eq, Decidable.not_not, Bool.not_eq_true, Bool.and_eq_true, Bool.or_eq_true, BitVec.reduceToNat] at hg174'
                          refine JR.gf (g := 177) rfl rfl rfl rfl hg174 (by decide) ?_
                          refine JR.gf (g := 177) rfl rfl rfl rfl hg174 (by decide) ?_
                          refine JR.gf (g := 177) rfl rfl rfl rfl hg174 (by decide) ?_
                          refine JR.gf (g := 177) rfl rfl rfl rfl hg174 (by decide) ?_
                          refine JR.gf (g := 177) rfl rfl rfl rfl hg174 (by decide) ?_
                          refine JR.gf (g := 177) rfl rfl rfl rfl hg174 (by decide) ?_
                          refine JR.gf (g := 177) rfl rfl rfl rfl hg174 (by decide) ?_
                          refine JR.gf (g := 177) rfl rfl rfl rfl hg174 (by decide) ?_
                          refine JR.gf (g := 177) rfl rfl rfl rfl hg174 (by decide) ?_
                          refine JR.ugt (g := 164) rfl rfl rfl rfl rfl rfl (Yv.pick0 rfl hg174 rfl) (by decide) ?_
                          refine JR.u rfl rfl rfl (Yv.pick0 rfl rfl rfl) (by decide) ?_
                          refine .uw rfl (.move rfl) ?_
                          refine JR.ugt (g := 189) rfl rfl rfl rfl rfl rfl (.move rfl) (by decide) ?_
                          refine JR.ugt (g := 189) rfl rfl rfl rfl rfl rfl (.move rfl) (by decide) ?_
                          refine JR.vgt (g := 189) rfl rfl rfl rfl rfl rfl (.ix1 Tryz.underlying36 sz_4 rfl rfl) (by decide) ?_
                          refine JR.vgt (g := 189) rfl rfl rfl rfl rfl rfl (.as (v' := .bool rk) (.ld one_4 rfl (hj := by exact gm (d := false) (by omega))) (congrArg Value.bool hrk.symm)) (by decide) ?_
                          refine JR.ugt (g := 189) rfl rfl rfl rfl rfl rfl (.move rfl) (by decide) ?_
                          refine JR.gsplit (g := 193) rfl (fun hg191 => ?_) (fun hg191 => ?_)
                          · have hg191' := hg191
                            try simp only [decide_eq_true_eq, decide_eq_false_iff_not, Bool.not_eq_true', Bool.not_eq_false', ne_eq, Decidable.not_not, Bool.not_eq_true, Bool.and_eq_true, Bool.or_eq_true, BitVec.reduceToNat] at hg191'
                            refine JR.ugt (g := 194) rfl rfl rfl rfl rfl hg191 (.move rfl) (by decide) ?_
                            refine JR.ugt (g := 194) rfl rfl rfl rfl rfl hg191 (.move rfl) (by decide) ?_
                            refine JR.vgt (g := 194) rfl rfl rfl rfl rfl hg191 (.ix1 Tryz.underlying37 sz_3 rfl rfl) (by decide) ?_
                            refine JR.vgt (g := 194) rfl rfl rfl rfl rfl hg191 (.as (v' := it fk) (.ld one_3 rfl (hj := by exact gm (d := 0) (by omega))) (congrArg it hfk.symm)) (by decide) ?_
                            refine JR.ugt (g := 194) rfl rfl rfl rfl rfl hg191 (.bin rfl rfl BinR.neq_i) (by decide) ?_
                            refine JR.ugt (g := 189) rfl rfl rfl rfl rfl rfl (Yv.pick1 rfl hg191 rfl) (by decide) ?_
                            refine JR.ugt (g := 189) rfl rfl rfl rfl rfl rfl (.move rfl) (by decide) ?_
                            refine JR.gsplit (g := 200) rfl (fun hg198 => ?_) (fun hg198 => ?_)
                            · have hg198' := hg198
                              try simp only [decide_eq_true_eq, decide_eq_false_iff_not, Bool.not_eq_true', Bool.not_eq_false', ne_eq, Decidable.not_not, Bool.not_eq_true, Bool.and_eq_true, Bool.or_eq_true, BitVec.reduceToNat] at hg198'
                              refine JR.ugt (g := 201) rfl rfl rfl rfl rfl hg198 (.move rfl) (by decide) ?_
                              refine JR.ugt (g := 201) rfl rfl rfl rfl rfl hg198 (.move rfl) (by decide) ?_
                              refine JR.vgt (g := 201) rfl rfl rfl rfl rfl hg198 (.ix1 Tryz.underlying37 sz_3 rfl rfl) (by decide) ?_
                              refine JR.vgt (g := 201) rfl rfl rfl rfl rfl hg198 (.as (v' := it fk) (.ld one_3 rfl (hj := by exact gm (d := 0) (by omega))) (congrArg it hfk.symm)) (by decide) ?_
                              refine JR.ugt (g := 201) rfl rfl rfl rfl rfl hg198 (.bin rfl rfl BinR.neq_i) (by decide) ?_
                              refine JR.ugt (g := 189) rfl rfl rfl rfl rfl rfl (Yv.pick1 rfl hg198 rfl) (by decide) ?_
                              refine JR.u rfl rfl rfl (Yv.pick0 rfl rfl rfl) (by decide) ?_
                              refine .nil (.tn ?_)
                              refine .cn rfl (fun hc7 => ?_) (fun hc7 => ?_)
                              · exfalso
                                first | exact absurd hc7 (by decide) | (have h5 := hck.2.2.2.2 (by assumption); omega)
                              · skip
                                refine .skip (.block_normal (.tn (.region ?_)))
                                refine .w (.move rfl) ?_
                                refine .w (.asI ((j + 1 : Nat) : Int) (.bin rfl rfl (BinR.add_i zqf))) ?_
                                refine .w (.assign rfl) ?_
                                refine .nil ?_
                                refine .hd (j + 1) ?_
                                exact ⟨by omega, by omega⟩
                            · have hg198' := hg198
                              try simp only [decide_eq_true_eq, decide_eq_false_iff_not, Bool.not_eq_true', Bool.not_eq_false', ne_eq, Decidable.not_not, Bool.not_eq_true, Bool.and_eq_true, Bool.or_eq_true, BitVec.reduceToNat] at hg198'
                              refine JR.gf (g := 201) rfl rfl rfl rfl hg198 (by decide) ?_
                              refine JR.gf (g := 201) rfl rfl rfl rfl hg198 (by decide) ?_
                              refine JR.gf (g := 201) rfl rfl rfl rfl hg198 (by decide) ?_
                              refine JR.gf (g := 201) rfl rfl rfl rfl hg198 (by decide) ?_
                              refine JR.gf (g := 201) rfl rfl rfl rfl hg198 (by decide) ?_
                              refine JR.ugt (g := 189) rfl rfl rfl rfl rfl rfl (Yv.pick0 rfl hg198 rfl) (by decide) ?_
                              refine JR.u rfl rfl rfl (Yv.pick0 rfl rfl rfl) (by decide) ?_
                              refine .nil (.tn ?_)
                              refine .k0 rfl rfl ?_
                              refine .skip (.block_normal (.tn (.region ?_)))
                              refine .w (.move rfl) ?_
                              refine .w (.asI ((j + 1 : Nat) : Int) (.bin rfl rfl (BinR.add_i zqf))) ?_
                              refine .w (.assign rfl) ?_
                              refine .nil ?_
                              refine .hd (j + 1) ?_
                              exact ⟨by omega, by omega⟩
                          · have hg191' := hg191
                            try simp only [decide_eq_true_eq, decide_eq_false_iff_not, Bool.not_eq_true', Bool.not_eq_false', ne_eq, Decidable.not_not, Bool.not_eq_true, Bool.and_eq_true, Bool.or_eq_true, BitVec.reduceToNat] at hg191'
                            refine JR.gf (g := 194) rfl rfl rfl rfl hg191 (by decide) ?_
                            refine JR.gf (g := 194) rfl rfl rfl rfl hg191 (by decide) ?_
                            refine JR.gf (g := 194) rfl rfl rfl rfl hg191 (by decide) ?_
                            refine JR.gf (g := 194) rfl rfl rfl rfl hg191 (by decide) ?_
                            refine JR.gf (g := 194) rfl rfl rfl rfl hg191 (by decide) ?_
                            refine JR.ugt (g := 189) rfl rfl rfl rfl rfl rfl (Yv.pick0 rfl hg191 rfl) (by decide) ?_
                            refine JR.ugt (g := 189) rfl rfl rfl rfl rfl rfl (.move rfl) (by decide) ?_
                            refine JR.gf (g := 201) rfl rfl rfl rfl rfl (by decide) ?_
                            refine JR.gf (g := 201) rfl rfl rfl rfl rfl (by decide) ?_
                            refine JR.gf (g := 201) rfl rfl rfl rfl rfl (by decide) ?_
                            refine JR.gf (g := 201) rfl rfl rfl rfl rfl (by decide) ?_
                            refine JR.gf (g := 201) rfl rfl rfl rfl rfl (by decide) ?_
                            refine JR.ugt (g := 189) rfl rfl rfl rfl rfl rfl (Yv.pick0 rfl rfl rfl) (by decide) ?_
                            refine JR.u rfl rfl rfl (Yv.pick0 rfl rfl rfl) (by decide) ?_
                            refine .nil (.tn ?_)
                            refine .k0 rfl rfl ?_
                            refine .skip (.block_normal (.tn (.region ?_)))
                            refine .w (.move rfl) ?_
                            refine .w (.asI ((j + 1 : Nat) : Int) (.bin rfl rfl (BinR.add_i zqf))) ?_
                            refine .w (.assign rfl) ?_
                            refine .nil ?_
                            refine .hd (j + 1) ?_
                            exact ⟨by omega, by omega⟩
              · skip
                refine .exit (.then_exit (.then_exit (.block_exit (.tn (.region ?_)))))
                refine .w (.move rfl) ?_
                refine .w (.assign rfl) ?_
                refine .nil (.block_normal (.tn (.region ?_)))
                refine .w (.move rfl) ?_
                refine .w (.asI ((k + 1 : Nat) : Int) (.bin rfl rfl (BinR.add_i zqf))) ?_
                refine .w (.assign rfl) ?_
                refine .nil ?_
                refine .hd (k + 1, (applyN z ds sx.at_ tx hTv cx), (actT A tx S.length), (revT R tx (applyE z ds sx.at_ tx) S.length), faultL z.own (applyN z ds sx.at_ tx hTv cx), v126) ?_
                exact ⟨⟨by dsimp only; omega, hz3, hdl2, hI2.now⟩, by dsimp only; omega⟩
      · obtain rfl : k = L.length := by omega
        refine .exit (.then_exit (.then_exit (.block_exit (.tn (.seq (.region ?_))))))
        refine .w (.move rfl) ?_
        refine .w (.assign rfl) ?_
        refine .nil (.tn (.ret ?_))
        exact .dn [] [] (res1 rfl (.tmp rfl)) ⟨rfl, rfl, rfl⟩
end Go.Proofs.YtmhiapebljfebaaGreatDoor

/- The law EpochFaults, whole. -/
namespace Go.Proofs.YtmhiapebljfebaaGreatDoor
open Go.RowKit
set_option maxRecDepth 100000
set_option linter.unusedVariables false
set_option linter.unusedSimpArgs false
theorem f3_spec (sv uv : Value) (wh : Int) (c : Cfg) (S : List W64) (L : List SX) (hL : ∀ s ∈ L, SXok s) : Spec Tryz.prog 3 #[(it wh), (.agg (cfgC c).toArray), sv, uv] [Res.var 0 ((wd 5).map u64), Res.var 1 ((wd 2).map u64), Res.var 2 ((wd 1).map u64), Res.var 3 ((wd 2).map u64), Res.rd sv S.length 1 (S.map u64), Res.rd uv L.length 10 (bks stpC L), Res.all (stpRes L)] [] (fun r Γ' H' => r = (.bool true) ∧ Γ' = [] ∧ H' = []) := by
  by_cases hE : newE (gG wh) c S = 0
  · exact f3a_spec sv uv wh c S L hL hE
  · exact f3b_spec sv uv wh c S L hL hE
end Go.Proofs.YtmhiapebljfebaaGreatDoor
