/- Texts of ours, gathered: ED AW TA TB TC TD TE. -/
import Derived.Test.YtmhiapebljfebaaGreatDoorT10
/- Walk: what was decided is applied. -/
namespace Go.Proofs.YtmhiapebljfebaaGreatDoor
open Go.RowKit
set_option maxRecDepth 100000
set_option linter.unusedVariables false
set_option linter.unusedSimpArgs false
theorem zq24 {p : Prop} (h : p := by repeat (first | exact trivial | refine ⟨by first | rfl | (exact congrArg (fun b => some (Value.bool b)) (by first | exact (decide_eq_true (by omega)).symm | exact (decide_eq_false (by omega)).symm | exact decide_eq_decide.2 (by omega))), ?_⟩)) : p := h
theorem do_body (i : Nat) : Body Tryz.prog (doF i) := by
 unfold doF
 repeat' split
 ·exact body_58
 ·exact body_59
 ·exact body_60
 ·exact body_61
 ·exact body_62
theorem do_all (z : ES) (hγ : GOk z.γ) (d : DL) (hd : DOk d) (k : Nat) (hps : z.ps[k]? = some d.p) (hkS : z.S.length = z.ps.length) (hcn : z.cnt.length = z.ps.length) (hT : 0 ≤ z.cfg.T ∧ z.cfg.T ≤ 10) (t : TX) (htc : ∀ a ∈ t.com, a < 115792089237316195423570985008687907853269984665640564039457584007913129639936) (htv : t.val < 115792089237316195423570985008687907853269984665640564039457584007913129639936) (i : Nat) (hi : i < 5) (h0 : 0 ≤ t.frm ∧ t.frm < (z.ps.length : Int)) (hw : (i = 1 ∨ i = 4 → t.dealer = (k : Int)) ∧ (¬ (i = 1 ∨ i = 4) → t.frm = (k : Int))) (hs : i = 4 → 0 ≤ t.slot ∧ t.slot < (z.own.length : Int)) :
  Spec Tryz.prog (doF i) (#[ptr z.s 0] ++ #[(.agg (txC t).toArray)] ++ #[]) [Res.cells z.s (stC z) 100, Res.rd z.sv z.S.length 1 (z.S.map u64), Res.rd z.cv z.cnt.length 1 (z.cnt.map it), Res.rd z.ov z.own.length 1 (z.own.map it), Res.rd z.av z.ps.length 1 (z.ps.map fun p => ptr p 0), Res.rd t.v t.com.length 4 (bks natC t.com), Res.var 2 ((wd 1).map u64)] [Res.cells d.p (dlC d) 105, Res.row d.cv d.com.length 40 4 (bks natC d.com), mpR d.ba itK blV d.acks, mpR d.bt itK blV d.tried, mpR d.bp itK ntV d.pieces, mpR d.bo itK blV d.opened, cGrp z.γ, Res.mod z.γ.px z.γ.P, Res.mod z.γ.pq z.γ.Q] (fun r Γ' H' => ∃ cx, r = it (kindE z d t i) ∧ Γ' = [] ∧ H' = [Res.cells (kindN d t htv i (kindE z d t i) cx).p (dlC (kindN d t htv i (kindE z d t i) cx)) 105, Res.row (kindN d t htv i (kindE z d t i) cx).cv (kindN d t htv i (kindE z d t i) cx).com.length 40 4 (bks natC (kindN d t htv i (kindE z d t i) cx).com), mpR (kindN d t htv i (kindE z d t i) cx).ba itK blV (kindN d t htv i (kindE z d t i) cx).acks, mpR (kindN d t htv i (kindE z d t i) cx).bt itK blV (kindN d t htv i (kindE z d t i) cx).tried, mpR (kindN d t htv i (kindE z d t i) cx).bp itK ntV (kindN d t htv i (kindE z d t i) cx).pieces, mpR (kindN d t htv i (kindE z d t i) cx).bo itK blV (kindN d t htv i (kindE z d t i) cx).opened, cGrp z.γ, Res.mod z.γ.px z.γ.P, Res.mod z.γ.pq z.γ.Q]) := by
 have hkl := ps_lt hps
 rcases (show i = 0 ∨ i = 1 ∨ i = 2 ∨ i = 3 ∨ i = 4 by omega) with rfl | rfl | rfl | rfl | rfl
 ·have hf := hw.2 (by decide)
  have e : t.frm.toNat = k := by omega
  have := f58_spec z hγ d hd k hps (by omega) hT t hf htc htv
  rw [← e] at this
  exact this
 ·have hf := hw.1 (by decide)
  exact (f59_spec z hγ d hd k hps t t.frm.toNat (by omega) (by omega) hf).mono fun _ _ _ ⟨h1, h2, h3⟩ => ⟨d.cv, h1, h2, h3⟩
 ·have hf := hw.2 (by decide)
  exact (f60_spec z hγ d hd k hps t hf htv).mono fun _ _ _ ⟨h1, h2, h3⟩ => ⟨d.cv, h1, h2, h3⟩
 ·have hf := hw.2 (by decide)
  exact (f61_spec z hγ d hd k hps t hf htv).mono fun _ _ _ ⟨h1, h2, h3⟩ => ⟨d.cv, h1, h2, h3⟩
 ·have hf := hw.1 (by decide)
  have hs' := hs rfl
  exact (f62_spec z hγ d hd k hps t hf t.slot.toNat (by omega) (by omega) htv).mono fun _ _ _ ⟨h1, h2, h3⟩ => ⟨d.cv, h1, h2, h3⟩

theorem f12_spec (z : ES) (ds : List DL) (hz : EOk z ds) (a : Int) (ham : a ≤ 9223372036854775807) (t : TX) (htc : ∀ a ∈ t.com, a < 115792089237316195423570985008687907853269984665640564039457584007913129639936) (htv : t.val < 115792089237316195423570985008687907853269984665640564039457584007913129639936) :
  Spec Tryz.prog 12 #[(ptr z.s 0), (it a), (.agg (txC t).toArray)] [Res.cells z.s (stC z) 100, Res.rd z.sv z.S.length 1 (z.S.map u64), Res.rd z.cv z.cnt.length 1 (z.cnt.map it), Res.rd z.ov z.own.length 1 (z.own.map it), Res.rd z.av z.ps.length 1 (z.ps.map fun p => ptr p 0), Res.rd t.v t.com.length 4 (bks natC t.com), Res.var 2 ((wd 1).map u64)] [Res.sep (ds.map dR), cGrp z.γ, Res.mod z.γ.px z.γ.P, Res.mod z.γ.pq z.γ.Q]
   (fun r Γ' H' => ∃ cx, r = it (applyE z ds a t) ∧ Γ' = [] ∧ H' = [Res.sep ((applyN z ds a t htv cx).map dR), cGrp z.γ, Res.mod z.γ.px z.γ.P, Res.mod z.γ.pq z.γ.Q]) := by
 refine Spec.of_args Tryz.func12 rfl Tryz.ntmps12 (by simp) fun w => ?_
 have hzl := hz.len
 obtain ⟨ph, hph⟩ : ∃ ph, ph = phaseF z.cfg a := ⟨_, rfl⟩
 refine JC.know (φ := z.ps.length ≤ 9223372036854775807) (fun w hs => by obtain ⟨_, _, _, _, _, _, h⟩ := hs.rdForm (.tail _ (.tail _ (.tail _ (.tail _ (.head _))))); unfold maxLen at h; omega) fun hll => ?_
 refine JC.know (φ := z.own.length ≤ 9223372036854775807) (fun w hs => by obtain ⟨_, _, _, _, _, _, h⟩ := hs.rdForm (.tail _ (.tail _ (.tail _ (.head _)))); unfold maxLen at h; omega) fun hlo => ?_
 refine .seq (.region ?_)
 refine .bx fun b5 => ?_
 refine .w (.assign rfl) ?_
 refine .nil (.tn (.seq (.region ?_)))
 refine .w (.move rfl) (.w (.makeFunc rfl rfl) (.w (.move rfl) (.w (.makeFunc rfl rfl) (.w (.move rfl) (.w (.makeFunc rfl rfl) (.w (.move rfl) ?_))))))
 refine .w (.makeFunc rfl rfl) (.w (.move rfl) (.w (.makeFunc rfl rfl) ?_))
 refine .l1 Tryz.underlying107 info_106 (fun v21 => ?_) (h1 := (by intro v hv; simp only [List.mem_cons, List.not_mem_nil, or_false] at hv; rcases hv with rfl | rfl | rfl | rfl | rfl <;> rfl))
 refine JO.freeze (v := v21) zq15 (by decide) ?_
 refine .w (.assign rfl) ?_
 refine .nil (.tn (.seq (.seq (.region ?_))))
 refine .w (.fieldAddr fa_42_0 rfl) (.w (.ld one_3 rfl) (.w (.as (v' := .bool (decide (t.kind < 1))) (.bin rfl rfl BinR.lss_i) rfl) (.w (.move rfl) ?_)))
 refine .join 4 29 (.bool (decide (t.kind < 1 ∨ t.kind > 5))) ?_ ?_
 ·refine .gn (g := 24) rfl (fun hg19 hg19' => ?_) (fun hg19 hg19' => ?_)
  ·refine .gf (g := 25) rfl rfl hg19 (by decide) ?_
   refine .gf (g := 25) rfl rfl hg19 (by decide) ?_
   refine .gf (g := 25) rfl rfl hg19 (by decide) ?_
   refine .w (.pick1 rfl hg19 rfl) (.nil ?_)
   refine .head () zq0 (fun _ h => h) (Picks.perm zq1) ?_
   trivial
  ·refine .gt (g := 25) rfl rfl hg19 ?_
   refine .w (.fieldAddr fa_42_0 rfl) ?_
   refine .gt (g := 25) rfl rfl hg19 ?_
   refine .w (.ld one_3 rfl) ?_
   refine .gt (g := 25) rfl rfl hg19 ?_
   refine .w (.bin rfl rfl BinR.gtr_i) (.w (.pick0 rfl hg19 rfl) (.nil ?_))
   refine .head () zq0 (fun _ h => h) (Picks.perm zq1) ?_
   trivial
 ·refine .w (.move rfl) ?_
  refine .join 6 36 (.bool (decide (t.kind < 1 ∨ t.kind > 5 ∨ ¬ (0 ≤ t.frm ∧ t.frm < (z.ps.length : Int))))) ?_ ?_
  ·refine .gn (g := 29) rfl (fun hg24 hg24' => ?_) (fun hg24 hg24' => ?_)
   ·refine .gf (g := 30) rfl rfl hg24 (by decide) ?_
    refine .gf (g := 30) rfl rfl hg24 (by decide) ?_
    refine .gf (g := 30) rfl rfl hg24 (by decide) ?_
    refine .gf (g := 30) rfl rfl hg24 (by decide) ?_
    refine .gf (g := 30) rfl rfl hg24 (by decide) ?_
    refine .w (.pick1 rfl hg24 rfl) (.nil ?_)
    refine .head () zq0 (fun _ h => h) (Picks.perm zq1) ?_
    trivial
   ·refine .gt (g := 30) rfl rfl hg24 ?_
    refine .w (.move rfl) ?_
    refine .gt (g := 30) rfl rfl hg24 ?_
    refine .w (.fieldAddr fa_42_1 rfl) ?_
    refine .gt (g := 30) rfl rfl hg24 ?_
    refine .w (.ld one_3 rfl) ?_
    refine .gt (g := 30) rfl rfl hg24 ?_
    refine .c (f63_spec z t.frm) body_63 ?_
    refine .gt (g := 30) rfl rfl hg24 ?_
    refine .w (.as (v' := .bool (decide (¬ (0 ≤ t.frm ∧ t.frm < (z.ps.length : Int))))) (.not rfl) (congrArg Value.bool decide_not.symm)) (.w (.pick0 rfl hg24 rfl) (.nil ?_))
    refine .head () zq0 (fun _ h => h) (Picks.perm zq1) ?_
    trivial
  ·refine .nil (.tn ?_)
   refine .cn rfl (fun hc1 => ?_) (fun hc1 => ?_)
   ·have hb1 : Bad1 z t := hc1
    have he : applyE z ds a t = 1 := if_pos hb1
    have hn : ∀ cx, applyN z ds a t htv cx = ds := fun cx => by unfold applyN; rw [if_pos hb1]
    obtain ⟨cx, -⟩ : ∃ cx : Value, True := ⟨t.v, trivial⟩
    refine .seq (.region ?_)
    refine .w (.assign rfl) ?_
    refine .nil (.tn (.ret (.then_ret ?_)))
    exact .dn [] [Res.sep (ds.map dR), cGrp z.γ, Res.mod z.γ.px z.γ.P, Res.mod z.γ.pq z.γ.Q] (res1 rfl (.tmp rfl)) ⟨cx, by rw [he], rfl, by rw [hn]⟩
   ·have hb1 : ¬ Bad1 z t := hc1
    refine .skip (.tn ?_)
    refine .mt (ι := Unit) (fun x => True) (fun T x => (8, .bool (decide (t.kind = 2 ∨ t.kind = 5))) :: (9, .bool (decide (t.kind = 3 ∨ t.kind = 5))) :: T) (fun T _ => T) (fun T _ => T) [0, 1, 5, 6, 7, 10, 53, 54, 55, 56, 57, 58, 59, 60, 61, 62, 63, 64, 65, 66, 67, 68, 69, 70, 71, 72, 73, 74, 75, 76, 77, 78, 79, 80, 81, 82, 83, 84, 85, 86, 87, 88, 89, 90, 91, 92, 93, 94, 95] [] ?_ (fun x hx => ?_)
    ·refine JC.draw (.one 0 (.one 1 (.one 2 (.one 3 (.one 4 (.one 5 (.one 6 (.one 7 (.one 8 (.one 9 (.one 10 (.one 11 (.one 12 (.one 13 (.one 14 (.one 15 (.one 16 (.one 17 .nil)))))))))))))))))) (fun i => ([] : List Nat).contains i) (fun i => ([] : List Nat).contains i) (fun i => ([0, 2, 3, 4, 6, 7, 8, 10, 11, 12, 14, 15, 16, 17] : List Nat).contains i) mixed (by kernel_rfl) (by decide) (by kernel_rfl) ?_
     refine .uw rfl (.fieldAddr fa_42_0 rfl) (.w rfl (.ld one_3 rfl) (.uw rfl (.bin rfl rfl BinR.eql_i) (.uw rfl (.move rfl) ?_)))
     refine JR.gsplit (g := 39) rfl (fun hg35 => ?_) (fun hg35 => ?_)
     ·have hg35' := hg35
      try simp only [decide_eq_true_eq, decide_eq_false_iff_not, Bool.not_eq_true', Bool.not_eq_false', ne_eq, Decidable.not_not, Bool.not_eq_true, Bool.and_eq_true, Bool.or_eq_true, BitVec.reduceToNat] at hg35'
      refine JR.gf (g := 40) rfl rfl rfl rfl hg35 (by decide) ?_
      refine JR.gf (g := 40) rfl rfl rfl rfl hg35 (by decide) ?_
      refine JR.gf (g := 40) rfl rfl rfl rfl hg35 (by decide) ?_
      refine JR.u rfl rfl rfl (Yv.pick1 rfl hg35 rfl) (by decide) ?_
      refine .uw rfl (.fieldAddr fa_42_0 rfl) (.w rfl (.ld one_3 rfl) (.uw rfl (.bin rfl rfl BinR.eql_i) (.uw rfl (.move rfl) ?_)))
      refine JR.gsplit (g := 47) rfl (fun hg43 => ?_) (fun hg43 => ?_)
      ·have hg43' := hg43
       try simp only [decide_eq_true_eq, decide_eq_false_iff_not, Bool.not_eq_true', Bool.not_eq_false', ne_eq, Decidable.not_not, Bool.not_eq_true, Bool.and_eq_true, Bool.or_eq_true, BitVec.reduceToNat] at hg43'
       refine JR.gf (g := 48) rfl rfl rfl rfl hg43 (by decide) ?_
       refine JR.gf (g := 48) rfl rfl rfl rfl hg43 (by decide) ?_
       refine JR.gf (g := 48) rfl rfl rfl rfl hg43 (by decide) ?_
       refine JR.u rfl rfl rfl (Yv.pick1 rfl hg43 rfl) (by decide) ?_
       refine .uw rfl (.assign rfl) (.uw rfl (.assign rfl) (.nil ?_))
       refine .hd () ?_ (hE := zq24)
       trivial
      ·have hg43' := hg43
       try simp only [decide_eq_true_eq, decide_eq_false_iff_not, Bool.not_eq_true', Bool.not_eq_false', ne_eq, Decidable.not_not, Bool.not_eq_true, Bool.and_eq_true, Bool.or_eq_true, BitVec.reduceToNat] at hg43'
       refine JR.ugt (g := 48) rfl rfl rfl rfl rfl hg43 (.fieldAddr fa_42_0 rfl) (by decide) ?_
       refine JR.vgt (g := 48) rfl rfl rfl rfl rfl hg43 (.ld one_3 rfl) (by decide) ?_
       refine JR.ugt (g := 48) rfl rfl rfl rfl rfl hg43 (.bin rfl rfl BinR.eql_i) (by decide) ?_
       refine JR.u rfl rfl rfl (Yv.pick0 rfl hg43 rfl) (by decide) ?_
       refine .uw rfl (.assign rfl) (.uw rfl (.assign rfl) (.nil ?_))
       refine .hd () ?_ (hE := zq24)
       trivial
     ·have hg35' := hg35
      try simp only [decide_eq_true_eq, decide_eq_false_iff_not, Bool.not_eq_true', Bool.not_eq_false', ne_eq, Decidable.not_not, Bool.not_eq_true, Bool.and_eq_true, Bool.or_eq_true, BitVec.reduceToNat] at hg35'
      refine JR.ugt (g := 40) rfl rfl rfl rfl rfl hg35 (.fieldAddr fa_42_0 rfl) (by decide) ?_
      refine JR.vgt (g := 40) rfl rfl rfl rfl rfl hg35 (.ld one_3 rfl) (by decide) ?_
      refine JR.ugt (g := 40) rfl rfl rfl rfl rfl hg35 (.bin rfl rfl BinR.eql_i) (by decide) ?_
      refine JR.u rfl rfl rfl (Yv.pick0 rfl hg35 rfl) (by decide) ?_
      refine .uw rfl (.fieldAddr fa_42_0 rfl) (.w rfl (.ld one_3 rfl) (.uw rfl (.bin rfl rfl BinR.eql_i) (.uw rfl (.move rfl) ?_)))
      refine JR.gsplit (g := 47) rfl (fun hg43 => ?_) (fun hg43 => ?_)
      ·have hg43' := hg43
       try simp only [decide_eq_true_eq, decide_eq_false_iff_not, Bool.not_eq_true', Bool.not_eq_false', ne_eq, Decidable.not_not, Bool.not_eq_true, Bool.and_eq_true, Bool.or_eq_true, BitVec.reduceToNat] at hg43'
       refine JR.gf (g := 48) rfl rfl rfl rfl hg43 (by decide) ?_
       refine JR.gf (g := 48) rfl rfl rfl rfl hg43 (by decide) ?_
       refine JR.gf (g := 48) rfl rfl rfl rfl hg43 (by decide) ?_
       refine JR.u rfl rfl rfl (Yv.pick1 rfl hg43 rfl) (by decide) ?_
       refine .uw rfl (.assign rfl) (.uw rfl (.assign rfl) (.nil ?_))
       refine .hd () ?_ (hE := zq24)
       trivial
      ·have hg43' := hg43
       try simp only [decide_eq_true_eq, decide_eq_false_iff_not, Bool.not_eq_true', Bool.not_eq_false', ne_eq, Decidable.not_not, Bool.not_eq_true, Bool.and_eq_true, Bool.or_eq_true, BitVec.reduceToNat] at hg43'
       refine JR.ugt (g := 48) rfl rfl rfl rfl rfl hg43 (.fieldAddr fa_42_0 rfl) (by decide) ?_
       refine JR.vgt (g := 48) rfl rfl rfl rfl rfl hg43 (.ld one_3 rfl) (by decide) ?_
       refine JR.ugt (g := 48) rfl rfl rfl rfl rfl hg43 (.bin rfl rfl BinR.eql_i) (by decide) ?_
       refine JR.u rfl rfl rfl (Yv.pick0 rfl hg43 rfl) (by decide) ?_
       refine .uw rfl (.assign rfl) (.uw rfl (.assign rfl) (.nil ?_))
       refine .hd () ?_ (hE := zq24)
       trivial
    ·refine .seq (.seq (.region ?_))
     refine .w (.move rfl) (.w (.move rfl) ?_)
     refine .join 6 60 (.bool (decide ((t.kind = 2 ∨ t.kind = 5) ∧ ¬ (0 ≤ t.dealer ∧ t.dealer < (z.ps.length : Int))))) ?_ ?_
     ·refine .gn (g := 8) rfl (fun hg51 hg51' => ?_) (fun hg51 hg51' => ?_)
      ·refine .gt (g := 54) rfl rfl hg51 ?_
       refine .w (.move rfl) ?_
       refine .gt (g := 54) rfl rfl hg51 ?_
       refine .w (.fieldAddr fa_42_2 rfl) ?_
       refine .gt (g := 54) rfl rfl hg51 ?_
       refine .w (.ld one_3 rfl) ?_
       refine .gt (g := 54) rfl rfl hg51 ?_
       refine .c (f63_spec z t.dealer) body_63 ?_
       refine .gt (g := 54) rfl rfl hg51 ?_
       refine .w (.as (v' := .bool (decide (¬ (0 ≤ t.dealer ∧ t.dealer < (z.ps.length : Int))))) (.not rfl) (congrArg Value.bool decide_not.symm)) (.w (.pick1 rfl hg51 rfl) (.nil ?_))
       refine .head () zq0 (fun _ h => h) (Picks.perm zq1) ?_
       trivial
      ·refine .gf (g := 54) rfl rfl hg51 (by decide) ?_
       refine .gf (g := 54) rfl rfl hg51 (by decide) ?_
       refine .gf (g := 54) rfl rfl hg51 (by decide) ?_
       refine .gf (g := 54) rfl rfl hg51 (by decide) ?_
       refine .gf (g := 54) rfl rfl hg51 (by decide) ?_
       refine .w (.pick0 rfl hg51 rfl) (.nil ?_)
       refine .head () zq0 (fun _ h => h) (Picks.perm zq1) ?_
       trivial
     ·refine .w (.move rfl) ?_
      refine .join 9 70 (.bool (decide ((t.kind = 2 ∨ t.kind = 5) ∧ ¬ (0 ≤ t.dealer ∧ t.dealer < (z.ps.length : Int)) ∨ (t.kind = 3 ∨ t.kind = 5) ∧ ¬ (0 ≤ t.slot ∧ t.slot < (z.own.length : Int))))) ?_ ?_
      ·refine .gn (g := 60) rfl (fun hg58 hg58' => ?_) (fun hg58 hg58' => ?_)
       ·refine .gf (g := 61) rfl rfl hg58 (by decide) ?_
        refine .gf (g := 61) rfl rfl hg58 (by decide) ?_
        refine .gu (g := 63) rfl rfl (by decide) ?_
        refine .gu (g := 63) rfl rfl (by decide) ?_
        refine .gu (g := 63) rfl rfl (by decide) ?_
        refine .gu (g := 63) rfl rfl (by decide) ?_
        refine .gu (g := 63) rfl rfl (by decide) ?_
        refine .gf (g := 61) rfl rfl hg58 (by decide) ?_
        refine .w (.pick1 rfl hg58 rfl) (.nil ?_)
        refine .head () zq0 (fun _ h => h) (Picks.perm zq1) ?_
        trivial
       ·refine .gt (g := 61) rfl rfl hg58 ?_
        refine .w (.move rfl) ?_
        refine .gt (g := 61) rfl rfl hg58 ?_
        refine .w (.move rfl) ?_
        refine .gn (g := 9) rfl (fun hg60 hg60' => ?_) (fun hg60 hg60' => ?_)
        ·refine .gt (g := 63) rfl rfl hg60 ?_
         refine .w (.move rfl) ?_
         refine .gt (g := 63) rfl rfl hg60 ?_
         refine .w (.fieldAddr fa_42_3 rfl) ?_
         refine .gt (g := 63) rfl rfl hg60 ?_
         refine .w (.ld one_3 rfl) ?_
         refine .gt (g := 63) rfl rfl hg60 ?_
         refine .c (f64_spec z t.slot) body_64 ?_
         refine .gt (g := 63) rfl rfl hg60 ?_
         refine .w (.as (v' := .bool (decide (¬ (0 ≤ t.slot ∧ t.slot < (z.own.length : Int))))) (.not rfl) (congrArg Value.bool decide_not.symm)) ?_
         refine .gt (g := 61) rfl rfl hg58 ?_
         refine .w (.pick1 rfl hg60 rfl) (.w (.pick0 rfl hg58 rfl) (.nil ?_))
         refine .head () zq0 (fun _ h => h) (Picks.perm zq1) ?_
         trivial
        ·refine .gf (g := 63) rfl rfl hg60 (by decide) ?_
         refine .gf (g := 63) rfl rfl hg60 (by decide) ?_
         refine .gf (g := 63) rfl rfl hg60 (by decide) ?_
         refine .gf (g := 63) rfl rfl hg60 (by decide) ?_
         refine .gf (g := 63) rfl rfl hg60 (by decide) ?_
         refine .gt (g := 61) rfl rfl hg58 ?_
         refine .w (.pick0 rfl hg60 rfl) (.w (.pick0 rfl hg58 rfl) (.nil ?_))
         refine .head () zq0 (fun _ h => h) (Picks.perm zq1) ?_
         trivial
      ·refine .nil (.tn ?_)
       refine .cn rfl (fun hc2 => ?_) (fun hc2 => ?_)
       ·have hb2 : Bad2 z t := hc2
        have he : applyE z ds a t = 1 := by rw [applyE, if_neg hb1, if_pos hb2]
        have hn : ∀ cx, applyN z ds a t htv cx = ds := fun cx => by unfold applyN; rw [if_neg hb1, if_pos hb2]
        obtain ⟨cx, -⟩ : ∃ cx : Value, True := ⟨t.v, trivial⟩
        refine .seq (.region ?_)
        refine .w (.assign rfl) ?_
        refine .nil (.tn (.ret (.then_ret ?_)))
        exact .dn [] [Res.sep (ds.map dR), cGrp z.γ, Res.mod z.γ.px z.γ.P, Res.mod z.γ.pq z.γ.Q] (res1 rfl (.tmp rfl)) ⟨cx, by rw [he], rfl, by rw [hn]⟩
       ·have hb2 : ¬ Bad2 z t := hc2
        refine .skip (.tn (.seq (.region ?_)))
        refine .w (.move rfl) (.w (.move rfl) (.c (f29_spec z hz.win a ham) body_29 ?_))
        rw [← hph]
        refine .w (.assign rfl) ?_
        refine .nil (.tn (.seq (.seq (.region ?_))))
        refine .w (.move rfl) (.w (.fieldAddr fa_42_0 rfl) (.w (.ld one_3 rfl) (.w (.min_i rfl rfl) (.w (.bin rfl rfl BinR.neq_i) (.w (.move rfl) ?_)))))
        refine .join 8 87 (.bool (decide (ph ≠ min t.kind 4 ∧ (t.kind ≠ 5 ∨ ph ≠ 5)))) ?_ ?_
        ·refine .gn (g := 78) rfl (fun hg78 hg78' => ?_) (fun hg78 hg78' => ?_)
         ·refine .gt (g := 79) rfl rfl hg78 ?_
          refine .w (.fieldAddr fa_42_0 rfl) ?_
          refine .gt (g := 79) rfl rfl hg78 ?_
          refine .w (.ld one_3 rfl) ?_
          refine .gt (g := 79) rfl rfl hg78 ?_
          refine .w (.bin rfl rfl BinR.neq_i) ?_
          refine .gt (g := 79) rfl rfl hg78 ?_
          refine .w (.move rfl) ?_
          refine .gn (g := 82) rfl (fun hg82 hg82' => ?_) (fun hg82 hg82' => ?_)
          ·refine .gf (g := 83) rfl rfl hg82 (by decide) ?_
           refine .gf (g := 83) rfl rfl hg82 (by decide) ?_
           refine .gt (g := 79) rfl rfl hg78 ?_
           refine .w (.pick1 rfl hg82 rfl) (.w (.pick1 rfl hg78 rfl) (.nil ?_))
           refine .head () zq0 (fun _ h => h) (Picks.perm zq1) ?_
           trivial
          ·refine .gt (g := 83) rfl rfl hg82 ?_
           refine .w (.move rfl) ?_
           refine .gt (g := 83) rfl rfl hg82 ?_
           refine .w (.bin rfl rfl BinR.neq_i) ?_
           refine .gt (g := 79) rfl rfl hg78 ?_
           refine .w (.pick0 rfl hg82 rfl) (.w (.pick1 rfl hg78 rfl) (.nil ?_))
           refine .head () zq0 (fun _ h => h) (Picks.perm zq1) ?_
           trivial
         ·refine .gf (g := 79) rfl rfl hg78 (by decide) ?_
          refine .gf (g := 79) rfl rfl hg78 (by decide) ?_
          refine .gf (g := 79) rfl rfl hg78 (by decide) ?_
          refine .gf (g := 79) rfl rfl hg78 (by decide) ?_
          refine .gu (g := 83) rfl rfl (by decide) ?_
          refine .gu (g := 83) rfl rfl (by decide) ?_
          refine .gf (g := 79) rfl rfl hg78 (by decide) ?_
          refine .w (.pick0 rfl hg78 rfl) (.nil ?_)
          refine .head () zq0 (fun _ h => h) (Picks.perm zq1) ?_
          trivial
        ·refine .nil (.tn ?_)
         refine .cn rfl (fun hc3 => ?_) (fun hc3 => ?_)
         ·have h3 : Bad3 z a t := by rw [hph] at hc3; exact hc3
          have he : applyE z ds a t = 70 := by rw [applyE, if_neg hb1, if_neg hb2, if_pos h3]
          have hn : ∀ cx, applyN z ds a t htv cx = ds := fun cx => by unfold applyN; rw [if_neg hb1, if_neg hb2, if_pos h3]
          obtain ⟨cx, -⟩ : ∃ cx : Value, True := ⟨t.v, trivial⟩
          refine .seq (.region ?_)
          refine .w (.assign rfl) ?_
          refine .nil (.tn (.ret (.then_ret ?_)))
          exact .dn [] [Res.sep (ds.map dR), cGrp z.γ, Res.mod z.γ.px z.γ.P, Res.mod z.γ.pq z.γ.Q] (res1 rfl (.tmp rfl)) ⟨cx, by rw [he], rfl, by rw [hn]⟩
         ·have h3 : ¬ Bad3 z a t := by rw [hph] at hc3; exact hc3
          have hwk : whoK t < ds.length := by unfold whoK; split <;> omega
          have hdk := hz.at hwk
          refine JC.us (L := ds.map dR) (A := [dR (ds.getD (whoK t) DZ)]) (B := (ds.eraseIdx (whoK t)).map dR) (ds_out hdk.1) ?_
          refine JC.us (L := dlL (ds.getD (whoK t) DZ)) (A := dlL (ds.getD (whoK t) DZ)) (B := []) (by rw [List.append_nil]) ?_
          refine .skip (.tn (.seq ?_))
          refine JC.draw (.one 0 (.one 1 (.one 2 (.one 3 (.one 4 (.one 5 (.one 6 (.one 7 (.one 8 .nil))))))))) (fun i => ([7] : List Nat).contains i) (fun i => ([7] : List Nat).contains i) (fun i => ([0, 1, 3, 4, 8] : List Nat).contains i) mixed (by kernel_rfl) (by decide) (by kernel_rfl) ?_
          refine .uw rfl (.move rfl) (.uw rfl (.fieldAddr fa_42_0 rfl) (.w rfl (.ld one_3 rfl) (.uw rfl (.asI ((t.kind - 1).toNat : Int) (.bin rfl rfl (BinR.sub_i (by first | (constructor <;> omega) | (constructor <;> simp <;> omega))))) (.uw rfl (.ix1 Tryz.underlying107 sz_106 rfl rfl) (.w rfl (.ld one_106 rfl (hj := by exact do_at (by omega))) (.w rfl (.as (v' := .agg (txC t).toArray) (.lda agg_42 rfl) (by rfl)) ?_))))))
          refine .mw rfl (Mv.callF (do_body (t.kind - 1).toNat) rfl rfl rfl (do_all z hz.γ (ds.getD (whoK t) DZ) hdk.2.2 (whoK t) hdk.2.1 (by rw [hzl]; exact hz.S) (by rw [hzl]; exact hz.cnt) hz.T t htc htv (t.kind - 1).toNat (by omega) (by omega) ⟨fun h => by unfold whoK; rw [if_pos (by omega)]; omega, fun h => by unfold whoK; rw [if_neg (by omega)]; omega⟩ (fun h => by omega)) zq1 zq9 (by rintro _ _ _ ⟨_, _, h, _⟩; exact h)) ?_
          rintro _ _ _ ⟨_, ⟨cx, rfl, _, rfl⟩, hΓ, hH⟩
          simp only [List.cons_append, List.nil_append] at hH; subst hΓ hH
          refine kp ?_
          refine .uw rfl (.assign rfl) ?_
          refine .nil (.tn (.ret ?_))
          refine .rs (A := dlL (kindN (ds.getD (whoK t) DZ) t htv (t.kind - 1).toNat (kindE z (ds.getD (whoK t) DZ) t (t.kind - 1).toNat) cx)) (B := []) (L := dlL (kindN (ds.getD (whoK t) DZ) t htv (t.kind - 1).toNat (kindE z (ds.getD (whoK t) DZ) t (t.kind - 1).toNat) cx)) (by rw [List.append_nil]) ?_
          refine .rs (A := [dR (kindN (ds.getD (whoK t) DZ) t htv (t.kind - 1).toNat (kindE z (ds.getD (whoK t) DZ) t (t.kind - 1).toNat) cx)]) (B := (ds.eraseIdx (whoK t)).map dR) (L := (ds.set (whoK t) (kindN (ds.getD (whoK t) DZ) t htv (t.kind - 1).toNat (kindE z (ds.getD (whoK t) DZ) t (t.kind - 1).toNat) cx)).map dR) (ds_in hwk _) ?_
          exact .dn [] [Res.sep ((ds.set (whoK t) (kindN (ds.getD (whoK t) DZ) t htv (t.kind - 1).toNat (kindE z (ds.getD (whoK t) DZ) t (t.kind - 1).toNat) cx)).map dR), cGrp z.γ, Res.mod z.γ.px z.γ.P, Res.mod z.γ.pq z.γ.Q] (res1 rfl (.tmp rfl)) ⟨cx, by rw [applyE, if_neg hb1, if_neg hb2, if_neg h3], rfl, by rw [applyN, if_neg hb1, if_neg hb2, if_neg h3]⟩
end Go.Proofs.YtmhiapebljfebaaGreatDoor

/- Walk: the chapter's examples. -/
namespace Go.Proofs.YtmhiapebljfebaaGreatDoor
open Go.RowKit
set_option maxRecDepth 100000
set_option linter.unusedVariables false
set_option linter.unusedSimpArgs false
theorem f9_spec  :
  Spec Tryz.prog 9 #[] [Res.var 0 ((wd 5).map u64), Res.var 1 ((wd 2).map u64), Res.var 2 ((wd 1).map u64), Res.var 3 ((wd 2).map u64)] []
   (fun r Γ' H' => r = (.bool true) ∧ Γ' = [] ∧ H' = []) := by
 refine Spec.of_args Tryz.func9 rfl Tryz.ntmps9 (by simp) fun w => ?_
 refine .seq (.region ?_)
 refine .w (.assign rfl) ?_
 refine .nil (.tn (.seq (.region ?_)))
 refine .cb (f10_spec 0) body_10 ?_ (h0 := by rintro _ _ _ ⟨_, _, _, _, _, _, h, _⟩; exact h)
 rintro _ _ ⟨γ, hγ, hP, hQ, hG, rfl, _, rfl⟩
 refine .ap ?_
 have hnE := aw_new hP hQ hG
 refine .w (.assign rfl) ?_
 refine .nil (.tn (.seq (.seq (.region ?_))))
 refine .w (.move rfl) (.w (.bin rfl rfl (BinR.eql_p Tryz.underlying28)) ?_)
 refine .nil (.tn ?_)
 refine .cf rfl ?_
 refine .skip (.tn (.seq (.region ?_)))
 refine .w (.move rfl) (.c (f19_spec 0 1) body_19 ?_)
 refine .l1 Tryz.underlying25 info_22 (fun v19 => ?_)
 refine .w (.as (v' := .agg (prevC d32z).toArray) (.build bld_35 rfl rfl) (by rfl)) (.cb (f11a_spec γ hγ ⟨0, 1, 1, 1, 1, 1, 1⟩ v19 [5] 0 d32z hnE) body_11 ?_ (h0 := by rintro _ _ _ ⟨_, _, _, _, h, _⟩; exact h))
 rintro _ _ ⟨z, ds, hN, rfl, _, rfl⟩
 refine .ap ?_
 obtain rfl := hN.eγ
 obtain ⟨d, rfl, ha⟩ := aw_start hP hQ hG hN
 have hz0 := hN.ok hγ hnE
 refine JO.frz (r := Res.cells z.s (stC z) 100) zq15 ?_
 refine JO.freeze (v := z.sv) zq15 (by decide) ?_
 refine JO.freeze (v := z.cv) zq15 (by decide) ?_
 refine JO.freeze (v := z.ov) zq15 (by decide) ?_
 refine JO.freeze (v := z.av) zq15 (by decide) ?_
 refine .w (.move rfl) (.w (.as (v' := ptr z.s 0) (.extract rfl rfl) rfl) (.w (.as (v' := it 0) (.extract rfl rfl) rfl) (.w (.assign rfl) (.w (.assign rfl) ?_))))
 refine .nil (.tn (.seq (.seq (.region ?_))))
 refine .w (.move rfl) (.w (.bin rfl rfl (BinR.eql_p Tryz.underlying30)) (.w (.move rfl) ?_))
 refine .gt (g := 26) rfl rfl rfl ?_
 refine .w (.move rfl) ?_
 refine .gt (g := 26) rfl rfl rfl ?_
 refine .w (.bin rfl rfl BinR.neq_i) (.w (.pick0 rfl rfl rfl) ?_)
 refine .nil (.tn ?_)
 refine .cf rfl ?_
 refine .skip (.tn (.seq (.region ?_)))
 refine .w (.move rfl) (.w (.as (v' := .agg ((wd 18).map u64).toArray) (.build bld_40 rfl rfl) (by rfl)) ?_)
 refine .ls Tryz.underlying38 info_40 (fun v32 => ?_) (hsz := (by intro v hv; obtain rfl := List.mem_singleton.1 hv; rfl))
 rw [show List.flatMap (fun v : Value => v.cells.toList) [Value.agg ((wd 18).map u64).toArray] = bks natC [18] from rfl]
 refine JO.know (φ := ∃ (A : Option Addr) (c : Nat), v32 = .slice A 1 c) (fun w hs => (by obtain ⟨A, c, h, _⟩ := row_rd (by decide) (Res.row_ok.1 (hs.hok _ (.head _))); exact ⟨A, c, h⟩)) fun hf => ?_
 obtain ⟨A32, c32, rfl⟩ := hf
 refine .w (.build (cs := (txC (tX1 (.slice A32 1 c32)))) bld_42 rfl (by kernel_rfl)) (.cb (f12_spec z [d] hz0 0 (by decide) (tX1 (.slice A32 1 c32)) c18 (tX1v (.slice A32 1 c32))) body_12 ?_ (h0 := by rintro _ _ _ ⟨_, _, h, _⟩; exact h))
 rintro _ _ ⟨cx1, rfl, _, rfl⟩
 refine .ap ?_
 have hz1 := hz0.apply 0 (tX1 (.slice A32 1 c32)) c18 (tX1v (.slice A32 1 c32)) cx1
 rw [(aw1 ha (.slice A32 1 c32)).1, (aw1 ha (.slice A32 1 c32)).2]
 rw [(aw1 ha (.slice A32 1 c32)).2] at hz1
 refine .w (.assign rfl) ?_
 refine .nil (.tn (.seq (.region ?_)))
 refine JO.nilRd 4 ?_
 refine .w (.move rfl) (.w (.build (cs := (txC (tX2 (.slice none 0 0)))) bld_42 rfl (by kernel_rfl)) (.cb (f12_spec z [dW1 d cx1] hz1 1 (by decide) (tX2 (.slice none 0 0)) cnil (tX2v (.slice none 0 0))) body_12 ?_ (h0 := by rintro _ _ _ ⟨_, _, h, _⟩; exact h)))
 rintro _ _ ⟨cx2, rfl, _, rfl⟩
 refine .ap ?_
 have hz2 := hz1.apply 1 (tX2 (.slice none 0 0)) cnil (tX2v (.slice none 0 0)) cx2
 rw [(aw2 ha cx1 (.slice none 0 0)).1, (aw2 ha cx1 (.slice none 0 0)).2]
 rw [(aw2 ha cx1 (.slice none 0 0)).2] at hz2
 refine .w (.assign rfl) ?_
 refine .nil (.tn (.seq (.region ?_)))
 refine .w (.move rfl) (.w (.as (v' := .agg ((wd 4).map u64).toArray) (.build bld_40 rfl rfl) (by rfl)) (.w (.build (cs := (txC (tX3 (.slice none 0 0)))) bld_42 rfl (by kernel_rfl)) (.cb (f12_spec z [dW2 d cx1] hz2 3 (by decide) (tX3 (.slice none 0 0)) cnil (tX3v (.slice none 0 0))) body_12 ?_ (h0 := by rintro _ _ _ ⟨_, _, h, _⟩; exact h))))
 rintro _ _ ⟨cx3, rfl, _, rfl⟩
 refine .ap ?_
 have hz3 := hz2.apply 3 (tX3 (.slice none 0 0)) cnil (tX3v (.slice none 0 0)) cx3
 rw [(aw3 ha cx1 (.slice none 0 0)).1, (aw3 ha cx1 (.slice none 0 0)).2]
 rw [(aw3 ha cx1 (.slice none 0 0)).2] at hz3
 refine .w (.assign rfl) ?_
 refine .nil (.tn (.seq (.region ?_)))
 refine .w (.move rfl) (.w (.as (v' := .agg ((wd 3).map u64).toArray) (.build bld_40 rfl rfl) (by rfl)) (.w (.build (cs := (txC (tX4 (.slice none 0 0)))) bld_42 rfl (by kernel_rfl)) (.cb (f12_spec z [dW2 d cx1] hz3 3 (by decide) (tX4 (.slice none 0 0)) cnil (tX4v (.slice none 0 0))) body_12 ?_ (h0 := by rintro _ _ _ ⟨_, _, h, _⟩; exact h))))
 rintro _ _ ⟨cx4, rfl, _, rfl⟩
 refine .ap ?_
 have hz4 := hz3.apply 3 (tX4 (.slice none 0 0)) cnil (tX4v (.slice none 0 0)) cx4
 rw [(aw4 ha cx1 (.slice none 0 0)).1, (aw4 ha cx1 (.slice none 0 0)).2]
 rw [(aw4 ha cx1 (.slice none 0 0)).2] at hz4
 refine .w (.assign rfl) ?_
 refine .nil (.tn (.seq (.region ?_)))
 refine .w (.move rfl) (.cb (f14_spec z [dW4 d cx1] hz4.ps (by rw [(aw_f ha cx1).2.2]; decide)) body_14 ?_ (h0 := by rintro _ _ _ ⟨_, _, h, _⟩; exact h))
 rintro v47 _ ⟨_, rfl, _, rfl⟩
 refine .ap ?_
 rw [aw_ql ha cx1]
 refine .w (.assign rfl) ?_
 refine .nil (.tn (.seq (.region ?_)))
 refine .w (.move rfl) (.c (f16R_spec z [dW4 d cx1] hz4.ps (by rw [(aw_f ha cx1).2.2]; decide) (aw_rev z d cx1) hz4.ds 0 (show 0 < 1 by decide)) body_16 ?_)
 refine .w (.move rfl) (.w (.as (v' := .agg ((wd 3).map u64).toArray) (.extract rfl rfl) (congrArg (fun n => Value.agg (List.map u64 (wd n)).toArray) (if_pos (aw_q ha cx1)))) (.w (.as (v' := .bool true) (.extract rfl rfl) (congrArg Value.bool (decide_eq_true (aw_q ha cx1)))) (.al zero_40 fun b9 => ?_)))
 refine .sa sz_40 ?_
 refine .w (.assign rfl) ?_
 refine .nil (.tn (.seq (.region ?_)))
 refine .w (.move rfl) (.c (f24R_spec z [dW4 d cx1] hz4.ps (by rw [(aw_f ha cx1).2.2]; decide) (aw_rev z d cx1) hz4.ds hz4.win 4 (by decide)) body_24 ?_)
 rw [(aw_f ha cx1).2.1]
 refine .w (.assign rfl) ?_
 refine .nil (.tn (.seq (.region ?_)))
 refine .w (.move rfl) (.cb (f13_spec z [dW4 d cx1] hz4.ps (by rw [(aw_f ha cx1).2.2]; decide)) body_13 ?_ (h0 := by rintro _ _ _ ⟨_, _, h, _⟩; exact h))
 rintro v56 _ ⟨_, rfl, _, rfl⟩
 refine .ap ?_
 rw [(aw_f ha cx1).1]
 refine .w (.assign rfl) ?_
 refine .nil (.tn (.seq (.region ?_)))
 refine .w (.move rfl) (.w (.as (v' := .bool true) (.bin rfl rfl BinR.eql_i) rfl) (.w (.move rfl) ?_))
 refine .gt (g := 59) rfl rfl rfl ?_
 refine .w (.move rfl) ?_
 refine .gt (g := 59) rfl rfl rfl ?_
 refine .w (.as (v' := .bool true) (.bin rfl rfl BinR.eql_i) rfl) (.w (.pick1 rfl rfl rfl) (.w (.move rfl) ?_))
 refine .gt (g := 63) rfl rfl rfl ?_
 refine .w (.move rfl) ?_
 refine .gt (g := 63) rfl rfl rfl ?_
 refine .w (.as (v' := .bool true) (.bin rfl rfl BinR.eql_i) rfl) (.w (.pick1 rfl rfl rfl) (.w (.move rfl) ?_))
 refine .gt (g := 67) rfl rfl rfl ?_
 refine .w (.move rfl) ?_
 refine .gt (g := 67) rfl rfl rfl ?_
 refine .w (.as (v' := .bool true) (.bin rfl rfl BinR.eql_i) rfl) (.w (.pick1 rfl rfl rfl) (.w (.move rfl) ?_))
 refine .gt (g := 71) rfl rfl rfl ?_
 refine .w (.move rfl) ?_
 refine .gt (g := 71) rfl rfl rfl ?_
 refine .l1 Tryz.underlying37 info_3 (fun v73 => ?_)
 refine .gt (g := 71) rfl rfl rfl ?_
 refine .c (f17_spec v47 v73 [0] [0] (by decide) (by decide)) body_17 ?_
 refine .w (.pick1 rfl rfl rfl) (.w (.move rfl) ?_)
 refine .gt (g := 76) rfl rfl rfl ?_
 refine .w (.move rfl) (.w (.pick1 rfl rfl rfl) (.w (.move rfl) ?_))
 refine .gt (g := 79) rfl rfl rfl ?_
 refine .w (.lda agg_40 rfl) ?_
 refine .gt (g := 79) rfl rfl rfl ?_
 refine .w (.as (v' := .agg ((wd 3).map u64).toArray) (.build bld_40 rfl rfl) (by rfl)) ?_
 refine .gt (g := 79) rfl rfl rfl ?_
 refine .w (.as (v' := .bool true) (.bin rfl rfl (eql_nat wd_len' wd_len')) (congrArg Value.bool (by simp))) (.w (.pick1 rfl rfl rfl) (.w (.move rfl) ?_))
 refine .gt (g := 84) rfl rfl rfl ?_
 refine .w (.move rfl) (.w (.pick1 rfl rfl rfl) (.w (.move rfl) ?_))
 refine .gt (g := 87) rfl rfl rfl ?_
 refine .w (.move rfl) ?_
 refine .gt (g := 87) rfl rfl rfl ?_
 refine .l1 Tryz.underlying37 info_3 (fun v89 => ?_)
 refine .gt (g := 87) rfl rfl rfl ?_
 refine .c (f17_spec v56 v89 [0] [0] (by decide) (by decide)) body_17 ?_
 refine .w (.pick1 rfl rfl rfl) (.w (.assign rfl) ?_)
 refine .nil (.tn (.ret ?_))
 exact .dn [] [] (res1 rfl (.tmp rfl)) ⟨rfl, rfl, rfl⟩
end Go.Proofs.YtmhiapebljfebaaGreatDoor

/- Walks: the codec's writer, its reader. -/
namespace Go.Proofs.YtmhiapebljfebaaGreatDoor
open Go.RowKit
set_option maxRecDepth 100000
set_option linter.unusedVariables false
set_option linter.unusedSimpArgs false

theorem f94_spec (p : Nat) (v : Value) (xs : B8) (hx : xs.length ≤ 1000000000) (n : BitVec 64) :
  Spec Tryz.prog 94 #[(ptr p 0), u64 n] [] [Res.cells p [v] 145, Res.row v xs.length 5 1 (xs.map u8)]
   (fun r Γ' H' => ∃ v', r = .tuple #[] ∧ Γ' = [] ∧ H' = [Res.cells p [v'] 145, Res.row v' (xs ++ smallB n).length 5 1 ((xs ++ smallB n).map u8)]) := by
 refine Spec.of_args Tryz.func94 rfl Tryz.ntmps94 (by simp) fun w => ?_
 have hl64 := len64_le n
 have hn8 := nsz_le n
 refine JC.seq (JC.region (JO.v (Yv.move rfl) (by decide) ?_))
 refine JO.callB (f147_spec n) body_147 rfl zq1 zq9 zq20 (by decide) ?_
 rintro _ _ ⟨_, ⟨rfl, _, rfl⟩, hH⟩
 simp only [List.cons_append, List.nil_append] at hH; subst hH
 refine JO.v (Yv.bin rfl rfl (BinR.add_i (by first | (constructor <;> omega) | (constructor <;> simp <;> omega)))) (by decide) (JO.v (Yv.as (v' := it ((nsz n : Nat) : Int)) (Yv.bin rfl rfl (BinR.quo_i zq18 zq18 (by first | (constructor <;> omega) | (constructor <;> simp <;> omega)))) (congrArg it (by unfold nsz; omega))) (by decide) (JO.v (Yv.assign rfl) (by decide) (JO.nil (JQ.then_normal (JC.seq (JC.region ?_))))))
 refine JO.v (Yv.move rfl) (by decide) (JO.v (Yv.move rfl) (by decide) (JO.v (Yv.nilCheck rfl) (by decide) (JO.v (Yv.fieldAddr fa_145_0 rfl) (by decide) (JO.v (Yv.load1 one_79 rfl zq2) (by decide) (JO.v (Yv.move rfl) (by decide) (JO.v (Yv.as (v' := u8 (BitVec.ofNat 8 (nsz n))) (Yv.conv_i_u8 Tryz.underlying3 Tryz.underlying5 rfl) (congrArg u8 (by simp))) (by decide) ?_))))))
 refine JO.lit1 Tryz.underlying79 info_5 rfl rfl (by simp) (by decide) (by decide) (by decide) fun v16 => ?_
 refine JO.append Tryz.underlying79 info_5 rfl (by decide) rfl rfl zq15 zq22 zq8 (by unfold maxLen; omega) (by omega) (by decide) fun v17 => ?_
 refine JO.v (Yv.nilCheck rfl) (by decide) (JO.v (Yv.fieldAddr fa_145_0 rfl) (by decide) ?_)
 first | refine JO.store1 sz_79 rfl rfl rfl zq10 zq5 ?_ | refine JO.store1s sz_79 rfl rfl zq6 zq10 zq5 ?_ | refine JO.storeRow1 sz_79 rfl rfl rfl zq10 zq5 zq26 ?_
 refine JO.nil (JQ.then_normal ?_)
 refine JC.draw (.one 0 (.one 1 (.one 2 (.one 3 (.one 4 (.one 5 (.one 6 (.one 8 (.one 9 (.one 7 (.one 10 (.one 11 (.one 12 (.one 13 (.one 14 .nil))))))))))))))) (fun i => ([11, 14] : List Nat).contains i) (fun i => ([7, 10, 11, 14] : List Nat).contains i) (fun i => ([0, 1, 2, 3, 5, 6, 8, 9, 12, 13] : List Nat).contains i) mixed (by kernel_rfl) (by decide) (by kernel_rfl) ?_
 refine JR.u rfl rfl rfl (Yv.move rfl) (by decide) ?_
 refine JR.u rfl rfl rfl (Yv.move rfl) (by decide) ?_
 refine JR.u rfl rfl rfl (Yv.nilCheck rfl) (by decide) ?_
 refine JR.u rfl rfl rfl (Yv.fieldAddr fa_145_0 rfl) (by decide) ?_
 refine JR.v rfl rfl rfl (Yv.load1 one_79 rfl zq2) (by decide) ?_
 refine JR.u rfl rfl rfl (Yv.move rfl) (by decide) ?_
 refine JR.u rfl rfl rfl (Yv.as (v' := natV [n, 0, 0, 0]) (Yv.build bld_40 rfl rfl) rfl) (by decide) ?_
 refine JR.u rfl rfl rfl (Yv.move rfl) (by decide) ?_
 refine JR.u rfl rfl rfl (Yv.as (v' := it ((32 - nsz n : Nat) : Int)) (Yv.bin rfl rfl (BinR.sub_i (by first | (constructor <;> omega) | (constructor <;> simp <;> omega)))) (congrArg it (by omega))) (by decide) ?_
 refine JR.m rfl rfl (Mv.callB body_125 rfl (f125_spec [n, 0, 0, 0] rfl) zq1 zq9 zq20) (by decide) ?_
 rintro v27 _ _ ⟨_, ⟨_, _, rfl⟩, hΓ, hH⟩
 simp only [List.cons_append, List.nil_append] at hH; subst hΓ hH
 refine ⟨⟨Subs.sub zq3, .inr (St.keep zq3 zq1)⟩, ?_⟩
 refine JR.m rfl rfl (Mv.cutFr (l := 32 - nsz n) (h := 32) Tryz.underlying79 sz_5 rfl zq15 (by decide) ⟨_, rfl⟩ rfl zq25 zq25) (by decide) ?_
 rintro v30 _ _ ⟨rfl, rfl⟩
 refine ⟨⟨Subs.sub zq3, .inr (St.keep zq3 zq1)⟩, ?_⟩
 refine JR.m rfl rfl (Mv.append Tryz.underlying79 info_5 rfl (by decide) rfl rfl zq15 zq22 zq8 (by unfold maxLen; omega) (by omega)) (by decide) ?_
 rintro v31 _ _ ⟨rfl, rfl⟩
 refine ⟨⟨Subs.sub zq3, .inl rfl⟩, ?_⟩
 refine JR.u rfl rfl rfl (Yv.nilCheck rfl) (by decide) ?_
 refine JR.u rfl rfl rfl (Yv.fieldAddr fa_145_0 rfl) (by decide) ?_
 first | refine JR.m0 rfl rfl (Mv.store1 sz_79 rfl rfl rfl zq10 zq5) ?_ | refine JR.m0 rfl rfl (Mv.store1s sz_79 rfl rfl zq6 zq10 zq5) ?_ | refine JR.m0 rfl rfl (Mv.storeRow1 sz_79 rfl rfl rfl zq10 zq5 zq26) ?_
 rintro _ _ _ ⟨rfl, rfl⟩
 refine ⟨⟨Subs.sub zq3, .inl rfl⟩, ?_⟩
 refine JR.nil ?_
 rw [wSmall_eq, wSmall_len]
 exact JQ.done (.inl rfl) (Γ' := []) (H' := [Res.cells p [_] 145, Res.row _ (xs ++ smallB n).length 5 1 _]) (res_none rfl) (Subs.sub zq3) (Picks.perm zq1) ⟨_, rfl, rfl, rfl⟩


theorem f97_spec (p : Nat) (v : Value) (xs : B8) (hx : xs.length ≤ 1000000000) :
  Spec Tryz.prog 97 #[(ptr p 0)] [] [Res.cells p [v] 145, Res.row v xs.length 5 1 (xs.map u8)]
   (fun r Γ' H' => True ∧ Γ' = [] ∧ H' = [Res.row r xs.length 5 1 (xs.map u8), Res.cells p [v] 145, Res.row v xs.length 5 1 (xs.map u8)]) := by
 refine Spec.of_args Tryz.func97 rfl Tryz.ntmps97 (by simp) fun w => ?_
 refine JC.seq (JC.region (JO.v (Yv.assign rfl) (by decide) (JO.nil (JQ.then_normal (JC.seq (JC.region ?_))))))
 refine JO.v (Yv.move rfl) (by decide) (JO.v (Yv.nilCheck rfl) (by decide) (JO.v (Yv.fieldAddr fa_145_0 rfl) (by decide) (JO.v (Yv.load1 one_79 rfl zq2) (by decide) ?_)))
 refine JO.callB (f148_spec v xs.length (xs.map u8) (by omega) (one_map fun _ => rfl)) body_148 rfl zq1 zq9 zq20 (by decide) ?_
 rintro v7 _ ⟨_, ⟨_, _, rfl⟩, hH⟩
 simp only [List.cons_append, List.nil_append] at hH; subst hH
 refine JO.v (Yv.assign rfl) (by decide) (JO.nil (JQ.then_normal ?_))
 refine JC.ret ?_
 exact JQ.done (.inr rfl) (Γ' := []) (H' := [Res.row _ xs.length 5 1 (xs.map u8), Res.cells p [v] 145, Res.row v xs.length 5 1 (xs.map u8)]) (res1 rfl (RV.tmp rfl)) (Subs.sub zq3) (Picks.perm zq1) ⟨trivial, rfl, rfl⟩


theorem f96_spec (p : Nat) (v : Value) (xs : B8) (hx : xs.length ≤ 1000000000) (ws : W4) (h4 : ws.length = 4) :
  Spec Tryz.prog 96 #[(ptr p 0), natV ws] [] [Res.cells p [v] 145, Res.row v xs.length 5 1 (xs.map u8)]
   (fun r Γ' H' => ∃ v', r = .tuple #[] ∧ Γ' = [] ∧ H' = [Res.cells p [v'] 145, Res.row v' (xs ++ natBytes ws).length 5 1 ((xs ++ natBytes ws).map u8)]) := by
 refine Spec.of_args Tryz.func96 rfl Tryz.ntmps96 (by simp) fun w => ?_
 have hb32 := natBytes_length ws
 refine JC.seq (JC.region ?_)
 refine JO.box rfl _ rfl (by decide) fun b3 => ?_
 refine JO.frz (Pull.here _ _) ?_
 refine JO.nil (JQ.then_normal ?_)
 refine JC.draw (.one 0 (.one 1 (.one 2 (.one 3 (.one 4 (.one 5 (.one 6 (.one 7 (.one 8 (.one 9 (.one 10 .nil))))))))))) (fun i => ([7, 10] : List Nat).contains i) (fun i => ([6, 7, 10] : List Nat).contains i) (fun i => ([0, 1, 2, 3, 5, 8, 9] : List Nat).contains i) mixed (by kernel_rfl) (by decide) (by kernel_rfl) ?_
 refine JR.u rfl rfl rfl (Yv.move rfl) (by decide) ?_
 refine JR.u rfl rfl rfl (Yv.move rfl) (by decide) ?_
 refine JR.u rfl rfl rfl (Yv.nilCheck rfl) (by decide) ?_
 refine JR.u rfl rfl rfl (Yv.fieldAddr fa_145_0 rfl) (by decide) ?_
 refine JR.v rfl rfl rfl (Yv.load1 one_79 rfl zq2) (by decide) ?_
 first | refine JR.u rfl rfl rfl (Yv.as (v' := natV ws) (Yv.loadOwn agg_40 zq7 rfl zq11) (congrArg (fun l : List Value => Value.agg l.toArray) (by simp [natV, Value.cells, take4 h4]))) (by decide) ?_ | refine JR.u rfl rfl rfl (Yv.as (v' := natV ws) (Yv.loadOwnAt agg_40 zq7 rfl zq11) (congrArg (fun l : List Value => Value.agg l.toArray) (by simp [natV, Value.cells, take4 h4]))) (by decide) ?_ | refine JR.u rfl rfl rfl (Yv.as (v' := natV ws) (Yv.loadRow agg_40 zq7 rfl zq11) (congrArg (fun l : List Value => Value.agg l.toArray) (by simp [natV, Value.cells, take4 h4]))) (by decide) ?_ | refine JR.u rfl rfl rfl (Yv.as (v' := natV ws) (Yv.loadRd agg_40 zq6 rfl zq11) (congrArg (fun l : List Value => Value.agg l.toArray) (by simp [natV, Value.cells, take4 h4]))) (by decide) ?_ | refine JR.u rfl rfl rfl (Yv.as (v' := natV ws) (Yv.loadRo agg_40 zq7 rfl zq11) (congrArg (fun l : List Value => Value.agg l.toArray) (by simp [natV, Value.cells, take4 h4]))) (by decide) ?_
 refine JR.m rfl rfl (Mv.callB body_125 rfl (f125_spec ws h4) zq1 zq9 zq20) (by decide) ?_
 rintro v10 _ _ ⟨_, ⟨_, _, rfl⟩, hΓ, hH⟩
 simp only [List.cons_append, List.nil_append] at hH; subst hΓ hH
 refine ⟨⟨Subs.sub zq3, .inr (St.keep zq3 zq1)⟩, ?_⟩
 refine JR.m rfl rfl (Mv.append Tryz.underlying79 info_5 rfl (by decide) rfl rfl zq15 zq22 zq8 (by unfold maxLen; omega) (by omega)) (by decide) ?_
 rintro v11 _ _ ⟨rfl, rfl⟩
 refine ⟨⟨Subs.sub zq3, .inl rfl⟩, ?_⟩
 refine JR.u rfl rfl rfl (Yv.nilCheck rfl) (by decide) ?_
 refine JR.u rfl rfl rfl (Yv.fieldAddr fa_145_0 rfl) (by decide) ?_
 first | refine JR.m0 rfl rfl (Mv.store1 sz_79 rfl rfl rfl zq10 zq5) ?_ | refine JR.m0 rfl rfl (Mv.store1s sz_79 rfl rfl zq6 zq10 zq5) ?_ | refine JR.m0 rfl rfl (Mv.storeRow1 sz_79 rfl rfl rfl zq10 zq5 zq26) ?_
 rintro _ _ _ ⟨rfl, rfl⟩
 refine ⟨⟨Subs.sub zq3, .inl rfl⟩, ?_⟩
 refine JR.nil ?_
 rw [map_cat, len_cat]
 exact JQ.done (.inl rfl) (Γ' := []) (H' := [Res.cells p [_] 145, Res.row _ (xs ++ natBytes ws).length 5 1 _]) (res_none rfl) (Subs.sub zq3) (Picks.perm zq1) ⟨_, rfl, rfl, rfl⟩


theorem f76_spec (ws : W4) (h4 : ws.length = 4) :
  Spec Tryz.prog 76 #[natV ws] [] []
   (fun r Γ' H' => r = .agg (dgw ws 32).toArray ∧ Γ' = [] ∧ H' = []) := by
 refine Spec.of_args Tryz.func76 rfl Tryz.ntmps76 (by simp) fun w => ?_
 refine JC.seq (JC.region ?_)
 refine JO.box rfl _ rfl (by decide) fun b1 => ?_
 refine JO.alloc _ zero_126 rfl (by decide) fun b2 => ?_
 refine JO.nil (JQ.then_normal (JC.seq (JC.region ?_)))
 refine JO.alloc _ zero_126 rfl (by decide) fun b3 => ?_
 refine JO.nil (JQ.then_normal (JC.seq (JC.seq (JC.region (JO.v (Yv.assign rfl) (by decide) (JO.nil ?_))))))
 refine JQ.then_normal (JC.block ?_)
 refine JC.loop (ι := Nat) (fun x => x ≤ 32) (fun x => [(4, it (x : Int)), (1, ptr b1 0), (2, ptr b2 0), (3, ptr b3 0)]) (fun x => []) (fun x => [Res.cells b3 (dgw ws x) 126, Res.cells b1 (ws.map u64) 40, Res.cells b2 (dgw ws 0) 126]) (fun x => 32 - x) 0 zq12 (Subs.sub zq3) (Picks.perm zq1) ?_ (fun x hx => ?_)
 ·exact (by decide)
 refine JC.seq (JC.seq (JC.region (JO.v (Yv.move rfl) (by decide) (JO.v (Yv.bin rfl rfl BinR.lss_i) (by decide) (JO.nil (JQ.then_normal (JC.cond rfl (fun hc1 => ?_) (fun hc1 => ?_))))))))
 ·try simp only [decide_eq_true_eq, decide_eq_false_iff_not, Bool.not_eq_true', Bool.not_eq_false', ne_eq, Decidable.not_not, Bool.not_eq_true, Bool.and_eq_true, Bool.or_eq_true, BitVec.reduceToNat] at hc1
  refine JC.skip (JQ.then_normal (JC.seq (JC.block (JC.region (JO.v (Yv.move rfl) (by decide) (JO.v (Yv.move rfl) (by decide) ?_))))))
  refine JO.v (Yv.as (v' := it ((x / 8 : Nat) : Int)) (Yv.bin rfl rfl (BinR.quo_i zq18 zq18 (by first | (constructor <;> omega) | (constructor <;> simp <;> omega)))) (congrArg it (by omega))) (by decide) ?_
  first | refine JO.v (Yv.indexArr1 Tryz.underlying40 sz_22 rfl rfl zq5) (by decide) ?_ | refine JO.v (Yv.indexArr1o Tryz.underlying40 sz_22 rfl rfl zq5) (by decide) ?_
  refine JO.v (Yv.load1 one_22 rfl zq2) (by decide) (JO.v (Yv.move rfl) (by decide) (JO.v (Yv.bin rfl rfl (BinR.rem_i zq18 zq18)) (by decide) (JO.v (Yv.as (v' := it ((8 * (x % 8) : Nat) : Int)) (Yv.bin rfl rfl (BinR.mul_i (by first | (constructor <;> omega) | (constructor <;> simp <;> omega)))) (congrArg it (by omega))) (by decide) (JO.v (Yv.bin rfl rfl (BinR.shr_u64_i zq18)) (by decide) (JO.v (Yv.bin rfl rfl (BinR.and_u64 (b := 255#64))) (by decide) (JO.v (Yv.as (v' := it ((byteOf ws x).toNat : Int)) (Yv.conv_u64_i Tryz.underlying22 Tryz.underlying3 rfl (and255 _)) (congrArg it (by rw [byteOf, Int.toNat_natCast, byte_and]))) (by decide) ?_))))))
  first | refine JO.v (Yv.indexArr1 Tryz.underlying126 sz_3 rfl rfl zq5) (by decide) ?_ | refine JO.v (Yv.indexArr1o Tryz.underlying126 sz_3 rfl rfl zq5) (by decide) ?_
  first | refine JO.store1 sz_3 rfl rfl rfl zq10 zq5 ?_ | refine JO.storeRow1 sz_3 rfl rfl rfl zq10 zq5 zq26 ?_
  refine JO.nil ?_
  refine JQ.block_normal ?_
  refine JQ.then_normal (JC.region (JO.v (Yv.move rfl) (by decide) (JO.v (Yv.bin rfl rfl (BinR.add_i (by first | (constructor <;> omega) | (constructor <;> simp <;> omega)))) (by decide) (JO.v (Yv.assign rfl) (by decide) (JO.nil ?_)))))
  rw [dgw_set]
  refine JQ.head (x + 1) zq12 (Subs.sub zq3) (Picks.perm zq1) ?_
  exact ⟨by omega, by omega⟩
 ·try simp only [decide_eq_true_eq, decide_eq_false_iff_not, Bool.not_eq_true', Bool.not_eq_false', ne_eq, Decidable.not_not, Bool.not_eq_true, Bool.and_eq_true, Bool.or_eq_true, BitVec.reduceToNat] at hc1
  obtain rfl : x = 32 := by omega
  refine JC.exit ?_
  refine JQ.then_exit ?_
  refine JQ.then_exit ?_
  refine JQ.block_exit ?_
  refine JQ.then_normal (JC.seq (JC.region ?_))
  first | refine JO.v (Yv.loadOwn agg_126 zq7 rfl zq11) (by decide) ?_ | refine JO.v (Yv.loadOwnAt agg_126 zq7 rfl zq11) (by decide) ?_ | refine JO.v (Yv.loadRow agg_126 zq7 rfl zq11) (by decide) ?_ | refine JO.v (Yv.loadRd agg_126 zq6 rfl zq11) (by decide) ?_ | refine JO.v (Yv.loadRo agg_126 zq7 rfl zq11) (by decide) ?_
  first | refine JO.storeAll sz_126 rfl rfl rfl zq13 zq17 zq10 zq13 ?_ | refine JO.store sz_126 rfl rfl rfl zq13 zq8 zq10 zq5 ?_ | refine JO.storeRow sz_126 rfl rfl rfl (by first | rfl | simp) zq17 zq10 zq5 zq5 ?_
  refine JO.nil (JQ.then_normal ?_)
  refine JC.ret ?_
  exact JQ.done (.inr rfl) (Γ' := []) (H' := []) (res1 rfl (RV.cell agg_126 zq7 rfl (by simp))) (Subs.sub zq3) (Picks.perm zq1) ⟨rfl, rfl, rfl⟩


theorem f81_spec (ws : W4) (h4 : ws.length = 4) :
  Spec Tryz.prog 81 #[natV ws] [] []
   (fun v Γ' H' => True ∧ Γ' = [] ∧ H' = [Res.row v (natBytes ws).length 5 1 ((natBytes ws).map u8)]) := by
 refine Spec.of_args Tryz.func81 rfl Tryz.ntmps81 (by simp) fun w => ?_
 refine JC.seq (JC.region ?_)
 refine JO.box rfl _ rfl (by decide) fun b1 => ?_
 refine JO.v (Yv.assign rfl) (by decide) (JO.nil (JQ.then_normal (JC.seq (JC.region ?_))))
 first | refine JO.v (Yv.loadOwn agg_40 zq7 rfl zq11) (by decide) ?_ | refine JO.v (Yv.loadOwnAt agg_40 zq7 rfl zq11) (by decide) ?_ | refine JO.v (Yv.loadRow agg_40 zq7 rfl zq11) (by decide) ?_ | refine JO.v (Yv.loadRd agg_40 zq6 rfl zq11) (by decide) ?_ | refine JO.v (Yv.loadRo agg_40 zq7 rfl zq11) (by decide) ?_
 refine JO.callB (f76_spec ws h4) body_76 rfl zq1 zq9 zq20 (by decide) ?_
 rintro _ _ ⟨_, ⟨rfl, _, rfl⟩, hH⟩
 simp only [List.cons_append, List.nil_append] at hH; subst hH
 refine JO.alloc _ zero_126 rfl (by decide) fun b3 => ?_
 first | refine JO.storeAll sz_126 rfl rfl rfl zq13 zq17 zq10 zq13 ?_ | refine JO.store sz_126 rfl rfl rfl zq13 zq8 zq10 zq5 ?_ | refine JO.storeRow sz_126 rfl rfl rfl (by first | rfl | simp) zq17 zq10 zq5 zq5 ?_
 refine JO.nil (JQ.then_normal (JC.seq (JC.region ?_)))
 refine JO.nilRow 5 1 ?_
 refine JO.v (Yv.assign rfl) (by decide) (JO.nil (JQ.then_normal (JC.seq (JC.seq (JC.region (JO.v (Yv.assign rfl) (by decide) ?_))))))
 refine JO.nil (JQ.then_normal (JC.block ?_))
 refine JC.loop (ι := Nat × Value) (fun x => x.1 ≤ 32) (fun x => [(4, x.2), (5, it (31 - (x.1 : Int))), (3, ptr b3 0)]) (fun x => []) (fun x => [Res.row x.2 x.1 5 1 (((natBytes ws).take x.1).map u8), Res.cells b3 (dgw ws 32) 126]) (fun x => 32 - x.1) (0, _) zq12 (Subs.sub zq3) (Picks.perm zq1) ?_ (fun x hx => ?_)
 ·exact (by decide)
 obtain ⟨k, v⟩ := x
 dsimp only at hx ⊢
 refine JC.seq (JC.seq (JC.region (JO.v (Yv.move rfl) (by decide) (JO.v (Yv.bin rfl rfl BinR.geq_i) (by decide) (JO.nil (JQ.then_normal (JC.cond rfl (fun hc1 => ?_) (fun hc1 => ?_))))))))
 ·try simp only [decide_eq_true_eq, decide_eq_false_iff_not, Bool.not_eq_true', Bool.not_eq_false', ne_eq, Decidable.not_not, Bool.not_eq_true, Bool.and_eq_true, Bool.or_eq_true, BitVec.reduceToNat] at hc1
  refine JC.skip (JQ.then_normal (JC.seq (JC.block (JC.region (JO.v (Yv.move rfl) (by decide) (JO.v (Yv.as (v' := it ((31 - k : Nat) : Int)) (Yv.move rfl) (congrArg it (by omega))) (by decide) ?_))))))
  first | refine JO.v (Yv.indexArr1 Tryz.underlying126 sz_3 rfl rfl (by omega)) (by decide) ?_ | refine JO.v (Yv.indexArr1o Tryz.underlying126 sz_3 rfl rfl (by omega)) (by decide) ?_
  refine JO.v (Yv.load1 one_3 rfl (by first | exact Kn.own zq7 (by first | exact dgw_get ws 32 _ (by omega) (by decide) | rfl | exact tab_get zq16 | exact gm (d := 0) zq16) | exact Kn.ro zq7 (by first | exact dgw_get ws 32 _ (by omega) (by decide) | rfl | exact tab_get zq16 | exact gm (d := 0) zq16) | exact Kn.row zq7 (by first | exact dgw_get ws 32 _ (by omega) (by decide) | rfl | exact tab_get zq16 | exact gm (d := 0) zq16) | exact Kn.rd zq6 (by first | exact dgw_get ws 32 _ (by omega) (by decide) | rfl | exact tab_get zq16 | exact gm (d := 0) zq16) | exact Kn.rd2 zq6 (by first | exact dgw_get ws 32 _ (by omega) (by decide) | rfl | exact tab_get zq16 | exact gm (d := 0) zq16))) (by decide) (JO.v (Yv.as (v' := u8 (byteOf ws (31 - k))) (Yv.conv_i_u8 Tryz.underlying3 Tryz.underlying5 rfl) (congrArg u8 (by simp))) (by decide) ?_)
  refine JO.lit1 Tryz.underlying79 info_5 rfl rfl (by simp) (by decide) (by decide) (by decide) fun v17 => ?_
  refine JO.append Tryz.underlying79 info_5 rfl (by decide) rfl rfl zq15 zq22 zq8 (by unfold maxLen; omega) (by omega) (by decide) fun v18 => ?_
  refine JO.v (Yv.assign rfl) (by decide) (JO.nil ?_)
  refine JQ.block_normal ?_
  refine JQ.then_normal (JC.region (JO.v (Yv.move rfl) (by decide) (JO.v (Yv.bin rfl rfl (BinR.sub_i (by first | (constructor <;> omega) | (constructor <;> simp <;> omega)))) (by decide) (JO.v (Yv.assign rfl) (by decide) (JO.nil ?_)))))
  rw [natTake ws k (by omega)]
  refine JQ.head (k + 1, _) (by refine ⟨rfl, congrArg (fun n => some (it n)) (by omega), rfl, trivial⟩) (Subs.sub zq3) (Picks.perm zq1) ?_
  exact ⟨by dsimp only; omega, by dsimp only; omega⟩
 ·try simp only [decide_eq_true_eq, decide_eq_false_iff_not, Bool.not_eq_true', Bool.not_eq_false', ne_eq, Decidable.not_not, Bool.not_eq_true, Bool.and_eq_true, Bool.or_eq_true, BitVec.reduceToNat] at hc1
  obtain rfl : k = 32 := by omega
  refine JC.exit ?_
  refine JQ.then_exit ?_
  refine JQ.then_exit ?_
  refine JQ.block_exit ?_
  refine JQ.then_normal (JC.seq (JC.region (JO.v (Yv.move rfl) (by decide) (JO.v (Yv.assign rfl) (by decide) (JO.nil (JQ.then_normal ?_))))))
  refine JC.ret ?_
  exact JQ.done (.inr rfl) (Γ' := []) (H' := [Res.row _ 32 5 1 (((natBytes ws).take 32).map u8)]) (res1 rfl (RV.tmp rfl)) (Subs.sub zq3) (Picks.perm zq1) ⟨trivial, rfl, by rw [List.take_of_length_le (by simp), natBytes_length]⟩


theorem f95_spec (p : Nat) (v : Value) (xs : B8) (hx : xs.length ≤ 500000000) (u : Value) (l : List W4) (hl : ∀ ws ∈ l, ws.length = 4) (hn : l.length ≤ 1000000) :
  Spec Tryz.prog 95 #[(ptr p 0), u] [Res.rd u l.length 4 (natCells l)] [Res.cells p [v] 145, Res.row v xs.length 5 1 (xs.map u8)]
   (fun r Γ' H' => ∃ v', r = .tuple #[] ∧ Γ' = [] ∧ H' = [Res.cells p [v'] 145, Res.row v' (xs ++ natsB l).length 5 1 ((xs ++ natsB l).map u8)]) := by
 refine Spec.of_args Tryz.func95 rfl Tryz.ntmps95 (by simp) fun w => ?_
 refine JC.seq (JC.region (JO.v (Yv.move rfl) (by decide) (JO.v (Yv.move rfl) (by decide) ?_)))
 first | refine JO.v (Yv.len_s Tryz.underlying38 rfl) (by decide) ?_ | refine JO.v (Yv.lenRd Tryz.underlying38 rfl zq6) (by decide) ?_
 refine JO.v (Yv.as (v' := u64 (BitVec.ofNat 64 l.length)) (Yv.conv_i_u64 Tryz.underlying3 Tryz.underlying22 rfl) (congrArg u64 (by simp))) (by decide) ?_
 refine JO.callB (f94_spec p v xs (by omega) (BitVec.ofNat 64 l.length)) body_94 rfl zq1 zq9 (by rintro _ _ _ ⟨_, _, h, _⟩; exact h) (by decide) ?_
 rintro _ _ ⟨_, ⟨v8, rfl, _, rfl⟩, hH⟩
 simp only [List.cons_append, List.nil_append] at hH; subst hH
 have hs := smallB_le (BitVec.ofNat 64 l.length)
 have hL : (xs ++ smallB (BitVec.ofNat 64 l.length)).length = xs.length + (smallB (BitVec.ofNat 64 l.length)).length := List.length_append
 refine JO.nil (JQ.then_normal (JC.seq (JC.region (JO.v (Yv.move rfl) (by decide) ?_))))
 first | refine JO.v (Yv.len_s Tryz.underlying38 rfl) (by decide) ?_ | refine JO.v (Yv.lenRd Tryz.underlying38 rfl zq6) (by decide) ?_
 refine JO.v (Yv.move rfl) (by decide) (JO.nil (JQ.then_normal (JC.block ?_)))
 refine JC.loop (ι := Nat × Value) (fun x => x.1 ≤ l.length) (fun x => [(0, ptr p 0), (11, u), (12, it (l.length : Int)), (13, it (x.1 : Int))]) (fun x => [Res.rd u l.length 4 (natCells l)]) (fun x => [Res.cells p [x.2] 145, Res.row x.2 (xs ++ smallB (BitVec.ofNat 64 l.length) ++ flatB (l.take x.1)).length 5 1 ((xs ++ smallB (BitVec.ofNat 64 l.length) ++ flatB (l.take x.1)).map u8)]) (fun x => l.length - x.1) (0, v8) zq12 (Subs.sub zq3) (Picks.perm (by dsimp only; rw [show flatB (List.take 0 l) = [] from rfl, List.append_nil]; repeat (first | exact Picks.nil _ | apply Picks.cons | exact Pull.here _ _ | apply Pull.there))) ?_ (fun x hx => ?_)
 ·exact Nat.zero_le _
 obtain ⟨k, v'⟩ := x
 dsimp only at hx ⊢
 have hF := flatB_len (l.take k)
 have hL2 : (xs ++ smallB (BitVec.ofNat 64 l.length) ++ flatB (l.take k)).length = (xs ++ smallB (BitVec.ofNat 64 l.length)).length + (flatB (l.take k)).length := List.length_append
 rw [List.length_take, Nat.min_eq_left hx] at hF
 have hcl := natCells_len hl
 refine JC.seq (JC.region (JO.v (Yv.bin rfl rfl BinR.lss_i) (by decide) (JO.nil (JQ.then_normal (JC.seq (JC.cond rfl (fun hc1 => ?_) (fun hc1 => ?_)))))))
 ·try simp only [decide_eq_true_eq, decide_eq_false_iff_not, Bool.not_eq_true', Bool.not_eq_false', ne_eq, Decidable.not_not, Bool.not_eq_true, Bool.and_eq_true, Bool.or_eq_true, BitVec.reduceToNat] at hc1
  have h4 := getD_mem4 hl (k := k) (by omega)
  have h4' := h4
  simp only [List.getD_eq_getElem?_getD] at h4'
  refine JC.skip (JQ.then_normal (JC.seq (JC.block (JC.seq (JC.region ?_)))))
  first | refine JO.v (Yv.indexRow Tryz.underlying38 sz_40 rfl rfl zq7 zq5) (by decide) ?_ | refine JO.v (Yv.indexRd Tryz.underlying38 sz_40 rfl rfl zq6 (by decide) zq5) (by decide) ?_
  first | refine JO.v (Yv.as (v' := natV (l.getD k [])) (Yv.loadOwn agg_40 zq7 rfl (by rw [hcl]; omega)) (congrArg (fun l : List Value => Value.agg l.toArray) (natCells_at hl (by omega)))) (by decide) ?_ | refine JO.v (Yv.as (v' := natV (l.getD k [])) (Yv.loadOwnAt agg_40 zq7 rfl (by rw [hcl]; omega)) (congrArg (fun l : List Value => Value.agg l.toArray) (natCells_at hl (by omega)))) (by decide) ?_ | refine JO.v (Yv.as (v' := natV (l.getD k [])) (Yv.loadRow agg_40 zq7 rfl (by rw [hcl]; omega)) (congrArg (fun l : List Value => Value.agg l.toArray) (natCells_at hl (by omega)))) (by decide) ?_ | refine JO.v (Yv.as (v' := natV (l.getD k [])) (Yv.loadRd agg_40 zq6 rfl (by rw [hcl]; omega)) (congrArg (fun l : List Value => Value.agg l.toArray) (natCells_at hl (by omega)))) (by decide) ?_ | refine JO.v (Yv.as (v' := natV (l.getD k [])) (Yv.loadRo agg_40 zq7 rfl (by rw [hcl]; omega)) (congrArg (fun l : List Value => Value.agg l.toArray) (natCells_at hl (by omega)))) (by decide) ?_
  refine JO.alloc _ zero_40 rfl (by decide) fun b5 => ?_
  first | refine JO.storeAll sz_40 rfl rfl rfl zq13 zq17 zq10 zq13 ?_ | refine JO.store sz_40 rfl rfl rfl zq13 zq8 zq10 zq5 ?_ | refine JO.storeRow sz_40 rfl rfl rfl (by first | rfl | simp) zq17 zq10 zq5 zq5 ?_
  refine JO.nil (JQ.then_normal (JC.region (JO.v (Yv.move rfl) (by decide) ?_)))
  first | refine JO.v (Yv.as (v' := natV (l.getD k [])) (Yv.loadOwn agg_40 zq7 rfl zq11) (congrArg (fun l : List Value => Value.agg l.toArray) (by simp [natV, Value.cells, take4 h4]))) (by decide) ?_ | refine JO.v (Yv.as (v' := natV (l.getD k [])) (Yv.loadOwnAt agg_40 zq7 rfl zq11) (congrArg (fun l : List Value => Value.agg l.toArray) (by simp [natV, Value.cells, take4 h4]))) (by decide) ?_ | refine JO.v (Yv.as (v' := natV (l.getD k [])) (Yv.loadRow agg_40 zq7 rfl zq11) (congrArg (fun l : List Value => Value.agg l.toArray) (by simp [natV, Value.cells, take4 h4]))) (by decide) ?_ | refine JO.v (Yv.as (v' := natV (l.getD k [])) (Yv.loadRd agg_40 zq6 rfl zq11) (congrArg (fun l : List Value => Value.agg l.toArray) (by simp [natV, Value.cells, take4 h4]))) (by decide) ?_ | refine JO.v (Yv.as (v' := natV (l.getD k [])) (Yv.loadRo agg_40 zq7 rfl zq11) (congrArg (fun l : List Value => Value.agg l.toArray) (by simp [natV, Value.cells, take4 h4]))) (by decide) ?_
  refine JO.callB (f96_spec p v' (xs ++ smallB (BitVec.ofNat 64 l.length) ++ flatB (l.take k)) (by omega) (l.getD k []) (getD_mem4 hl (by omega))) body_96 rfl zq1 zq9 (by rintro _ _ _ ⟨_, _, h, _⟩; exact h) (by decide) ?_
  rintro _ _ ⟨_, ⟨v9, rfl, _, rfl⟩, hH⟩
  simp only [List.cons_append, List.nil_append] at hH; subst hH
  rw [List.append_assoc (xs ++ smallB (BitVec.ofNat 64 l.length)), flatB_succ (by omega)]
  refine JO.nil ?_
  refine JQ.block_normal ?_
  refine JQ.then_normal (JC.region (JO.v (Yv.bin rfl rfl (BinR.add_i (by first | (constructor <;> omega) | (constructor <;> simp <;> omega)))) (by decide) (JO.v (Yv.move rfl) (by decide) (JO.nil ?_))))
  refine JQ.head (k + 1, _) zq12 (Subs.sub zq3) (Picks.perm zq1) ?_
  exact ⟨by dsimp only; omega, by dsimp only; omega⟩
 ·try simp only [decide_eq_true_eq, decide_eq_false_iff_not, Bool.not_eq_true', Bool.not_eq_false', ne_eq, Decidable.not_not, Bool.not_eq_true, Bool.and_eq_true, Bool.or_eq_true, BitVec.reduceToNat] at hc1
  obtain rfl : k = l.length := by omega
  refine JC.exit ?_
  refine JQ.then_exit ?_
  refine JQ.then_exit ?_
  refine JQ.block_exit ?_
  rw [List.take_length, List.append_assoc xs]
  exact JQ.done (.inl rfl) (Γ' := []) (H' := [Res.cells p [_] 145, Res.row _ (xs ++ natsB l).length 5 1 _]) (res_none rfl) (Subs.sub zq3) (Picks.perm zq1) ⟨_, rfl, rfl, rfl⟩


theorem f99_spec (u : Value) (l : List W4) (hl : ∀ ws ∈ l, ws.length = 4) (hn : l.length ≤ 1000000) :
  Spec Tryz.prog 99 #[u] [Res.rd u l.length 4 (natCells l)] []
   (fun r Γ' H' => True ∧ Γ' = [] ∧ H' = [Res.row r (natsB l).length 5 1 ((natsB l).map u8)]) := by
 refine Spec.of_args Tryz.func99 rfl Tryz.ntmps99 (by simp) fun w => ?_
 refine JC.seq (JC.region (JO.v (Yv.assign rfl) (by decide) (JO.nil (JQ.then_normal (JC.seq (JC.region ?_))))))
 refine JO.v (Yv.move rfl) (by decide) ?_
 first | refine JO.v (Yv.len_s Tryz.underlying38 rfl) (by decide) ?_ | refine JO.v (Yv.lenRd Tryz.underlying38 rfl zq6) (by decide) ?_
 refine JO.v (Yv.as (v' := u64 (BitVec.ofNat 64 l.length)) (Yv.conv_i_u64 Tryz.underlying3 Tryz.underlying22 rfl) (congrArg u64 (by simp))) (by decide) ?_
 refine JO.callB (f98_spec (BitVec.ofNat 64 l.length)) body_98 rfl zq1 zq9 zq20 (by decide) ?_
 rintro v8 _ ⟨_, ⟨_, _, rfl⟩, hH⟩
 simp only [List.cons_append, List.nil_append] at hH; subst hH
 have hs := smallB_le (BitVec.ofNat 64 l.length)
 refine JO.v (Yv.assign rfl) (by decide) (JO.nil (JQ.then_normal (JC.seq (JC.seq (JC.region (JO.v (Yv.assign rfl) (by decide) ?_))))))
 refine JO.nil (JQ.then_normal (JC.block ?_))
 refine JC.loop (ι := Nat × Value) (fun x => x.1 ≤ l.length) (fun x => [(0, u), (3, x.2), (4, it (x.1 : Int))]) (fun x => [Res.rd u l.length 4 (natCells l)]) (fun x => [Res.row x.2 (smallB (BitVec.ofNat 64 l.length) ++ flatB (l.take x.1)).length 5 1 ((smallB (BitVec.ofNat 64 l.length) ++ flatB (l.take x.1)).map u8)]) (fun x => l.length - x.1) (0, v8) zq12 (Subs.sub zq3) (Picks.perm (by dsimp only; rw [show flatB (List.take 0 l) = [] from rfl, List.append_nil]; repeat (first | exact Picks.nil _ | apply Picks.cons | exact Pull.here _ _ | apply Pull.there))) ?_ (fun x hx => ?_)
 ·exact Nat.zero_le _
 obtain ⟨k, v'⟩ := x
 dsimp only at hx ⊢
 have hF := flatB_len (l.take k)
 have hL2 : (smallB (BitVec.ofNat 64 l.length) ++ flatB (l.take k)).length = (smallB (BitVec.ofNat 64 l.length)).length + (flatB (l.take k)).length := List.length_append
 rw [List.length_take, Nat.min_eq_left hx] at hF
 have hcl := natCells_len hl
 refine JC.seq (JC.seq (JC.region (JO.v (Yv.move rfl) (by decide) (JO.v (Yv.move rfl) (by decide) ?_))))
 first | refine JO.v (Yv.len_s Tryz.underlying38 rfl) (by decide) ?_ | refine JO.v (Yv.lenRd Tryz.underlying38 rfl zq6) (by decide) ?_
 refine JO.v (Yv.bin rfl rfl BinR.lss_i) (by decide) (JO.nil (JQ.then_normal (JC.cond rfl (fun hc1 => ?_) (fun hc1 => ?_))))
 ·try simp only [decide_eq_true_eq, decide_eq_false_iff_not, Bool.not_eq_true', Bool.not_eq_false', ne_eq, Decidable.not_not, Bool.not_eq_true, Bool.and_eq_true, Bool.or_eq_true, BitVec.reduceToNat] at hc1
  have h4 := getD_mem4 hl (k := k) (by omega)
  have h4' := h4
  simp only [List.getD_eq_getElem?_getD] at h4'
  refine JC.skip (JQ.then_normal (JC.seq (JC.block (JC.region (JO.v (Yv.move rfl) (by decide) (JO.v (Yv.move rfl) (by decide) ?_))))))
  refine JO.v (Yv.move rfl) (by decide) ?_
  first | refine JO.v (Yv.indexRow Tryz.underlying38 sz_40 rfl rfl zq7 zq5) (by decide) ?_ | refine JO.v (Yv.indexRd Tryz.underlying38 sz_40 rfl rfl zq6 (by decide) zq5) (by decide) ?_
  first | refine JO.v (Yv.as (v' := natV (l.getD k [])) (Yv.loadOwn agg_40 zq7 rfl (by rw [hcl]; omega)) (congrArg (fun l : List Value => Value.agg l.toArray) (natCells_at hl (by omega)))) (by decide) ?_ | refine JO.v (Yv.as (v' := natV (l.getD k [])) (Yv.loadOwnAt agg_40 zq7 rfl (by rw [hcl]; omega)) (congrArg (fun l : List Value => Value.agg l.toArray) (natCells_at hl (by omega)))) (by decide) ?_ | refine JO.v (Yv.as (v' := natV (l.getD k [])) (Yv.loadRow agg_40 zq7 rfl (by rw [hcl]; omega)) (congrArg (fun l : List Value => Value.agg l.toArray) (natCells_at hl (by omega)))) (by decide) ?_ | refine JO.v (Yv.as (v' := natV (l.getD k [])) (Yv.loadRd agg_40 zq6 rfl (by rw [hcl]; omega)) (congrArg (fun l : List Value => Value.agg l.toArray) (natCells_at hl (by omega)))) (by decide) ?_ | refine JO.v (Yv.as (v' := natV (l.getD k [])) (Yv.loadRo agg_40 zq7 rfl (by rw [hcl]; omega)) (congrArg (fun l : List Value => Value.agg l.toArray) (natCells_at hl (by omega)))) (by decide) ?_
  refine JO.callB (f81_spec (l.getD k []) (getD_mem4 hl (by omega))) body_81 rfl zq1 zq9 zq20 (by decide) ?_
  rintro v20 _ ⟨_, ⟨_, _, rfl⟩, hH⟩
  simp only [List.cons_append, List.nil_append] at hH; subst hH
  have hb32 := natBytes_length (l.getD k [])
  refine JO.append Tryz.underlying79 info_5 rfl (by decide) rfl rfl zq15 zq22 zq8 (by unfold maxLen; omega) (by omega) (by decide) fun v21 => ?_
  refine JO.v (Yv.assign rfl) (by decide) (JO.nil ?_)
  refine JQ.block_normal ?_
  refine JQ.then_normal (JC.region (JO.v (Yv.move rfl) (by decide) (JO.v (Yv.bin rfl rfl (BinR.add_i (by first | (constructor <;> omega) | (constructor <;> simp <;> omega)))) (by decide) (JO.v (Yv.assign rfl) (by decide) (JO.nil ?_)))))
  rw [map_cat, len_cat, List.append_assoc (smallB (BitVec.ofNat 64 l.length)), flatB_succ (by omega)]
  refine JQ.head (k + 1, _) zq12 (Subs.sub zq3) (Picks.perm zq1) ?_
  exact ⟨by dsimp only; omega, by dsimp only; omega⟩
 ·try simp only [decide_eq_true_eq, decide_eq_false_iff_not, Bool.not_eq_true', Bool.not_eq_false', ne_eq, Decidable.not_not, Bool.not_eq_true, Bool.and_eq_true, Bool.or_eq_true, BitVec.reduceToNat] at hc1
  obtain rfl : k = l.length := by omega
  refine JC.exit ?_
  refine JQ.then_exit ?_
  refine JQ.then_exit ?_
  refine JQ.block_exit ?_
  refine JQ.then_normal (JC.seq (JC.region (JO.v (Yv.move rfl) (by decide) (JO.v (Yv.assign rfl) (by decide) (JO.nil (JQ.then_normal ?_))))))
  refine JC.ret ?_
  rw [List.take_length]
  exact JQ.done (.inr rfl) (Γ' := []) (H' := [Res.row _ (natsB l).length 5 1 _]) (res1 rfl (RV.tmp rfl)) (Subs.sub zq3) (Picks.perm zq1) ⟨trivial, rfl, rfl⟩


theorem f152_spec (p : Nat) (v : Value) (r : Rdr) (m : Int) :
  Spec Tryz.prog 152 #[(ptr p 0), it m] [Res.rd v r.b.length 1 (r.b.map u8)] [Res.cells p [v, it r.e] 218]
   (fun o Γ' H' => ∃ v', o = u64 (r.cnt m) ∧ Γ' = [Res.rd v' (r.cntA m).b.length 1 ((r.cntA m).b.map u8)] ∧ H' = [Res.cells p [v', it (r.cntA m).e] 218]) := by
 refine Spec.of_args Tryz.func152 rfl Tryz.ntmps152 (by simp) fun w => ?_
 refine JC.seq (JC.region (JO.v (Yv.assign rfl) (by decide) (JO.nil (JQ.then_normal (JC.seq (JC.seq ?_))))))
 refine JC.region (JO.v (Yv.move rfl) (by decide) (JO.v (Yv.bin rfl rfl BinR.lss_i) (by decide) (JO.nil (JQ.then_normal (JC.cond rfl (fun hc1 => ?_) (fun hc1 => ?_))))))
 ·try simp only [decide_eq_true_eq, decide_eq_false_iff_not, Bool.not_eq_true', Bool.not_eq_false', ne_eq, Decidable.not_not, Bool.not_eq_true, Bool.and_eq_true, Bool.or_eq_true, BitVec.reduceToNat] at hc1
  have hw : r.cntR m = r.wrong 2 := if_pos hc1
  refine JC.region (JO.v (Yv.move rfl) (by decide) ?_)
  refine JO.call (f151_spec p v r 2) body_151 rfl zq1 zq3 (by decide) ?_
  rintro _ _ _ ⟨_, _, ⟨v1, rfl, rfl, rfl⟩, hΓ, hH⟩
  simp only [List.cons_append, List.nil_append] at hΓ hH; subst hΓ hH
  refine JO.nil (JQ.then_normal (JC.seq (JC.region (JO.v (Yv.move rfl) (by decide) (JO.v (Yv.move rfl) (by decide) (JO.v (Yv.conv_i_u64 Tryz.underlying3 Tryz.underlying22 rfl) (by decide) ?_))))))
  refine JO.call (f101_spec p _ _ (BitVec.ofInt 64 m)) body_101 rfl zq1 zq3 (by decide) ?_
  rintro _ _ _ ⟨_, _, ⟨v2, rfl, rfl, rfl⟩, hΓ, hH⟩
  simp only [List.cons_append, List.nil_append] at hΓ hH; subst hΓ hH
  refine JO.v (Yv.assign rfl) (by decide) (JO.nil (JQ.then_normal ?_))
  refine JC.ret ?_
  exact JQ.done (.inr rfl) (Γ' := [Res.rd _ ((r.wrong 2).smA (BitVec.ofInt 64 m)).b.length 1 (((r.wrong 2).smA (BitVec.ofInt 64 m)).b.map u8)]) (H' := [Res.cells p [_, it ((r.wrong 2).smA (BitVec.ofInt 64 m)).e] 218]) (res1 rfl (RV.tmp rfl)) (Subs.sub zq3) (Picks.perm zq1) ⟨_, by rw [Rdr.cnt, hw], by rw [Rdr.cntA, hw], by rw [Rdr.cntA, hw]⟩
 ·try simp only [decide_eq_true_eq, decide_eq_false_iff_not, Bool.not_eq_true', Bool.not_eq_false', ne_eq, Decidable.not_not, Bool.not_eq_true, Bool.and_eq_true, Bool.or_eq_true, BitVec.reduceToNat] at hc1
  have hw : r.cntR m = r := if_neg hc1
  refine JC.skip (JQ.then_normal (JC.seq (JC.region (JO.v (Yv.move rfl) (by decide) (JO.v (Yv.move rfl) (by decide) (JO.v (Yv.conv_i_u64 Tryz.underlying3 Tryz.underlying22 rfl) (by decide) ?_))))))
  refine JO.call (f101_spec p _ _ (BitVec.ofInt 64 m)) body_101 rfl zq1 zq3 (by decide) ?_
  rintro _ _ _ ⟨_, _, ⟨v2, rfl, rfl, rfl⟩, hΓ, hH⟩
  simp only [List.cons_append, List.nil_append] at hΓ hH; subst hΓ hH
  refine JO.v (Yv.assign rfl) (by decide) (JO.nil (JQ.then_normal ?_))
  refine JC.ret ?_
  exact JQ.done (.inr rfl) (Γ' := [Res.rd _ (r.smA (BitVec.ofInt 64 m)).b.length 1 ((r.smA (BitVec.ofInt 64 m)).b.map u8)]) (H' := [Res.cells p [_, it (r.smA (BitVec.ofInt 64 m)).e] 218]) (res1 rfl (RV.tmp rfl)) (Subs.sub zq3) (Picks.perm zq1) ⟨_, by rw [Rdr.cnt, hw], by rw [Rdr.cntA, hw], by rw [Rdr.cntA, hw]⟩


theorem f103_spec (p : Nat) (v : Value) (r : Rdr) :
  Spec Tryz.prog 103 #[(ptr p 0)] [Res.rd v r.b.length 1 (r.b.map u8)] [Res.cells p [v, it r.e] 218]
   (fun o Γ' H' => ∃ v', o = natV (ofBytes (r.out 32)) ∧ Γ' = [Res.rd v' (r.aft 32).b.length 1 ((r.aft 32).b.map u8)] ∧ H' = [Res.cells p [v', it (r.aft 32).e] 218]) := by
 refine Spec.of_args Tryz.func103 rfl Tryz.ntmps103 (by simp) fun w => ?_
 refine JC.seq (JC.region ?_)
 refine JO.alloc _ zero_40 rfl (by decide) fun b2 => ?_
 refine JO.nil (JQ.then_normal (JC.seq (JC.region (JO.v (Yv.move rfl) (by decide) ?_))))
 refine JO.call (f149_spec p v r 32#64) body_149 rfl zq1 zq3 (by decide) ?_
 rintro v7 _ _ ⟨_, _, ⟨v1, _, rfl, rfl⟩, hΓ, hH⟩
 simp only [List.cons_append, List.nil_append] at hΓ hH; subst hΓ hH
 rw [show (32#64 : BitVec 64).toNat = 32 from rfl]
 have hle := Rdr.out_le r 32
 refine JO.callB (f150_spec v7 (r.out 32) hle) body_150 rfl zq1 zq9 zq20 (by decide) ?_
 rintro _ _ ⟨_, ⟨rfl, _, rfl⟩, hH⟩
 simp only [List.cons_append, List.nil_append] at hH; subst hH
 refine JO.v (Yv.move rfl) (by decide) (JO.v (Yv.extract rfl rfl) (by decide) (JO.v (Yv.extract rfl rfl) (by decide) ?_))
 refine JO.alloc _ zero_40 rfl (by decide) fun b3 => ?_
 first | refine JO.storeAll sz_40 rfl rfl rfl zq13 zq17 zq10 zq13 ?_ | refine JO.store sz_40 rfl rfl rfl zq13 zq8 zq10 zq5 ?_ | refine JO.storeRow sz_40 rfl rfl rfl (by first | rfl | simp) zq17 zq10 zq5 zq5 ?_
 refine JO.v (Yv.assign rfl) (by decide) (JO.nil (JQ.then_normal (JC.seq (JC.region ?_))))
 first | refine JO.v (Yv.as (v' := natV (ofBytes (r.out 32))) (Yv.loadOwn agg_40 zq7 rfl zq11) (congrArg (fun l : List Value => Value.agg l.toArray) (by simp [natV, Value.cells, take4 (ofBytes_length _)]))) (by decide) ?_ | refine JO.v (Yv.as (v' := natV (ofBytes (r.out 32))) (Yv.loadOwnAt agg_40 zq7 rfl zq11) (congrArg (fun l : List Value => Value.agg l.toArray) (by simp [natV, Value.cells, take4 (ofBytes_length _)]))) (by decide) ?_ | refine JO.v (Yv.as (v' := natV (ofBytes (r.out 32))) (Yv.loadRow agg_40 zq7 rfl zq11) (congrArg (fun l : List Value => Value.agg l.toArray) (by simp [natV, Value.cells, take4 (ofBytes_length _)]))) (by decide) ?_ | refine JO.v (Yv.as (v' := natV (ofBytes (r.out 32))) (Yv.loadRd agg_40 zq6 rfl zq11) (congrArg (fun l : List Value => Value.agg l.toArray) (by simp [natV, Value.cells, take4 (ofBytes_length _)]))) (by decide) ?_ | refine JO.v (Yv.as (v' := natV (ofBytes (r.out 32))) (Yv.loadRo agg_40 zq7 rfl zq11) (congrArg (fun l : List Value => Value.agg l.toArray) (by simp [natV, Value.cells, take4 (ofBytes_length _)]))) (by decide) ?_
 first | refine JO.storeAll sz_40 rfl rfl rfl zq13 zq17 zq10 zq13 ?_ | refine JO.store sz_40 rfl rfl rfl zq13 zq8 zq10 zq5 ?_ | refine JO.storeRow sz_40 rfl rfl rfl (by first | rfl | simp) zq17 zq10 zq5 zq5 ?_
 refine JO.nil (JQ.then_normal ?_)
 refine JC.ret ?_
 exact JQ.done (.inr rfl) (Γ' := [Res.rd _ (r.aft 32).b.length 1 ((r.aft 32).b.map u8)]) (H' := [Res.cells p [_, it (r.aft 32).e] 218]) (res1 rfl (RV.cell agg_40 zq7 rfl (by simp))) (Subs.sub zq3) (Picks.perm zq1) ⟨_, rfl, rfl, rfl⟩


theorem f104_spec (p : Nat) (v : Value) (r : Rdr) :
  Spec Tryz.prog 104 #[(ptr p 0)] [Res.rd v r.b.length 1 (r.b.map u8)] [Res.cells p [v, it r.e] 218]
   (fun o Γ' H' => o = it r.fin ∧ Γ' = [] ∧ H' = [Res.cells p [v, it r.e] 218]) := by
 refine Spec.of_args Tryz.func104 rfl Tryz.ntmps104 (by simp) fun w => ?_
 refine JC.seq (JC.region (JO.v (Yv.assign rfl) (by decide) (JO.nil (JQ.then_normal (JC.seq (JC.seq ?_))))))
 refine JC.region (JO.v (Yv.move rfl) (by decide) (JO.v (Yv.nilCheck rfl) (by decide) (JO.v (Yv.fieldAddr fa_218_1 rfl) (by decide) (JO.v (Yv.load1 one_31 rfl zq2) (by decide) (JO.v (Yv.bin rfl rfl BinR.eql_i) (by decide) (JO.v (Yv.move rfl) (by decide) ?_))))))
 refine JO.join 7 15 (.bool (decide (r.e = 0 ∧ 0 < r.b.length))) ?_ ?_
 ·skip
  refine JO.gsplit (g := 7) rfl (fun hg8 => ?_) (fun hg8 => ?_)
  ·have hg8' := hg8
   try simp only [decide_eq_true_eq, decide_eq_false_iff_not, Bool.not_eq_true', Bool.not_eq_false', ne_eq, Decidable.not_not, Bool.not_eq_true, Bool.and_eq_true, Bool.or_eq_true, BitVec.reduceToNat] at hg8'
   refine JO.gt (g := 8) rfl rfl hg8 ?_
   refine JO.v (Yv.move rfl) (by decide) ?_
   refine JO.gt (g := 8) rfl rfl hg8 ?_
   refine JO.v (Yv.nilCheck rfl) (by decide) ?_
   refine JO.gt (g := 8) rfl rfl hg8 ?_
   refine JO.v (Yv.fieldAddr fa_218_0 rfl) (by decide) ?_
   refine JO.gt (g := 8) rfl rfl hg8 ?_
   refine JO.v (Yv.load1 one_79 rfl zq2) (by decide) ?_
   refine JO.gt (g := 8) rfl rfl hg8 ?_
   first | refine JO.v (Yv.len_s Tryz.underlying79 rfl) (by decide) ?_ | refine JO.v (Yv.lenRd Tryz.underlying79 rfl zq6) (by decide) ?_
   refine JO.gt (g := 8) rfl rfl hg8 ?_
   refine JO.v (Yv.bin rfl rfl BinR.gtr_i) (by decide) (JO.v (Yv.pick1 rfl hg8 rfl) (by decide) (JO.nil ?_))
   refine JQ.head () zq19 (Subs.sub zq3) (Picks.perm zq1) ?_
   trivial
  ·have hg8' := hg8
   try simp only [decide_eq_true_eq, decide_eq_false_iff_not, Bool.not_eq_true', Bool.not_eq_false', ne_eq, Decidable.not_not, Bool.not_eq_true, Bool.and_eq_true, Bool.or_eq_true, BitVec.reduceToNat] at hg8'
   refine JO.gf (g := 8) rfl rfl hg8 (by decide) ?_
   refine JO.gf (g := 8) rfl rfl hg8 (by decide) ?_
   refine JO.gf (g := 8) rfl rfl hg8 (by decide) ?_
   refine JO.gf (g := 8) rfl rfl hg8 (by decide) ?_
   refine JO.gf (g := 8) rfl rfl hg8 (by decide) ?_
   refine JO.gf (g := 8) rfl rfl hg8 (by decide) ?_
   refine JO.v (Yv.pick0 rfl hg8 rfl) (by decide) (JO.nil ?_)
   refine JQ.head () zq19 (Subs.sub zq3) (Picks.perm zq1) ?_
   trivial
 ·skip
  refine JO.nil (JQ.then_normal (JC.cond rfl (fun hc1 => ?_) (fun hc1 => ?_)))
  ·try simp only [decide_eq_true_eq, decide_eq_false_iff_not, Bool.not_eq_true', Bool.not_eq_false', ne_eq, Decidable.not_not, Bool.not_eq_true, Bool.and_eq_true, Bool.or_eq_true, BitVec.reduceToNat] at hc1
   have hf : r.fin = 30 := if_pos hc1
   refine JC.seq (JC.region (JO.v (Yv.assign rfl) (by decide) (JO.nil (JQ.then_normal ?_))))
   refine JC.ret ?_
   refine JQ.then_ret ?_
   exact JQ.done (.inr rfl) (Γ' := []) (H' := [Res.cells p [v, it r.e] 218]) (res1 rfl (RV.tmp rfl)) (Subs.sub zq3) (Picks.perm zq1) ⟨by rw [hf] <;> rfl, rfl, rfl⟩
  ·try simp only [decide_eq_true_eq, decide_eq_false_iff_not, Bool.not_eq_true', Bool.not_eq_false', ne_eq, Decidable.not_not, Bool.not_eq_true, Bool.and_eq_true, Bool.or_eq_true, BitVec.reduceToNat] at hc1
   have hf : r.fin = r.e := if_neg hc1
   refine JC.skip (JQ.then_normal (JC.seq (JC.region (JO.v (Yv.move rfl) (by decide) (JO.v (Yv.nilCheck rfl) (by decide) (JO.v (Yv.fieldAddr fa_218_1 rfl) (by decide) ?_))))))
   refine JO.v (Yv.load1 one_31 rfl zq2) (by decide) (JO.v (Yv.assign rfl) (by decide) (JO.nil (JQ.then_normal ?_)))
   refine JC.ret ?_
   exact JQ.done (.inr rfl) (Γ' := []) (H' := [Res.cells p [v, it r.e] 218]) (res1 rfl (RV.tmp rfl)) (Subs.sub zq3) (Picks.perm zq1) ⟨by rw [hf] <;> rfl, rfl, rfl⟩


theorem f102_spec (p : Nat) (v : Value) (r : Rdr) (m : Int) (hb : r.b.length ≤ 1000000000) :
  Spec Tryz.prog 102 #[(ptr p 0), it m] [Res.rd v r.b.length 1 (r.b.map u8)] [Res.cells p [v, it r.e] 218]
   (fun o Γ' H' => ∃ v', True ∧ Γ' = [Res.rd v' (r.naA m).b.length 1 ((r.naA m).b.map u8)] ∧ H' = [Res.row o (r.naO m).length 40 4 (natCells (r.naO m)), Res.cells p [v', it (r.naA m).e] 218]) := by
 refine Spec.of_args Tryz.func102 rfl Tryz.ntmps102 (by simp) fun w => ?_
 refine JC.seq (JC.region (JO.v (Yv.assign rfl) (by decide) (JO.nil (JQ.then_normal (JC.seq (JC.region ?_))))))
 refine JO.nilRow 40 4 ?_
 refine JO.v (Yv.assign rfl) (by decide) (JO.nil (JQ.then_normal (JC.seq (JC.seq (JC.region (JO.v (Yv.move rfl) (by decide) ?_))))))
 refine JO.v (Yv.move rfl) (by decide) ?_
 refine JO.call (f152_spec p v r m) body_152 rfl zq1 zq3 (by decide) ?_
 rintro _ _ _ ⟨_, _, ⟨v1, rfl, rfl, rfl⟩, hΓ, hH⟩
 simp only [List.cons_append, List.nil_append] at hΓ hH; subst hΓ hH
 have hcb := Rdr.cntA_b r m
 have hnn := (r.cnt m).isLt
 refine JO.v (Yv.move rfl) (by decide) (JO.nil (JQ.then_normal (JC.block ?_)))
 refine JC.loop (ι := (Nat × List W4) × Rdr × Value × Value) (fun x => x.1.1 ≤ (r.cnt m).toNat ∧ x.1.2.length = x.1.1 ∧ (∀ ws ∈ x.1.2, ws.length = 4) ∧ 32 * x.1.1 + x.2.1.b.length ≤ 1000000000 ∧ Rdr.go ((r.cnt m).toNat - x.1.1) x.1.2 x.2.1 = Rdr.go (r.cnt m).toNat [] (r.cntA m)) (fun x => [(0, ptr p 0), (5, x.2.2.1), (9, u64 (r.cnt m)), (10, u64 (BitVec.ofNat 64 x.1.1))]) (fun x => [Res.rd x.2.2.2 x.2.1.b.length 1 (x.2.1.b.map u8)]) (fun x => [Res.cells p [x.2.2.2, it x.2.1.e] 218, Res.row x.2.2.1 x.1.2.length 40 4 (natCells x.1.2)]) (fun x => (r.cnt m).toNat - x.1.1) ((0, []), r.cntA m, (Value.slice none 0 0), v1) zq12 (Subs.sub zq3) (Picks.perm zq1) ?_ (fun x hx => ?_)
 ·exact ⟨Nat.zero_le _, rfl, (fun _ h => absurd h (by simp)), by dsimp only; omega, rfl⟩
 obtain ⟨⟨k, acc⟩, rk, v5, v'⟩ := x
 obtain ⟨hk, hal, ha4, hkb, hgo⟩ := hx
 dsimp only at hk hal ha4 hkb hgo ⊢
 refine JC.seq (JC.region (JO.v (Yv.bin rfl rfl (BinR.lss_u64)) (by decide) (JO.nil (JQ.then_normal (JC.seq (JC.cond rfl (fun hc1 => ?_) (fun hc1 => ?_)))))))
 ·try simp only [decide_eq_true_eq, decide_eq_false_iff_not, Bool.not_eq_true', Bool.not_eq_false', ne_eq, Decidable.not_not, Bool.not_eq_true, Bool.and_eq_true, Bool.or_eq_true, BitVec.reduceToNat] at hc1
  rw [BitVec.toNat_ofNat, Nat.mod_eq_of_lt (by omega)] at hc1
  have hsn : (r.cnt m).toNat - k = ((r.cnt m).toNat - (k + 1)) + 1 := by omega
  refine JC.skip (JQ.then_normal (JC.seq (JC.block (JC.seq (JC.region (JO.v (Yv.move rfl) (by decide) ?_))))))
  refine JO.call (f103_spec p v' rk) body_103 rfl zq1 zq3 (by decide) ?_
  rintro _ _ _ ⟨_, _, ⟨v2, rfl, rfl, rfl⟩, hΓ, hH⟩
  simp only [List.cons_append, List.nil_append] at hΓ hH; subst hΓ hH
  refine JO.alloc _ zero_40 rfl (by decide) fun b6 => ?_
  first | refine JO.storeAll sz_40 rfl rfl rfl zq13 zq17 zq10 zq13 ?_ | refine JO.store sz_40 rfl rfl rfl zq13 zq8 zq10 zq5 ?_ | refine JO.storeRow sz_40 rfl rfl rfl (by first | rfl | simp) zq17 zq10 zq5 zq5 ?_
  refine JO.nil (JQ.then_normal (JC.seq (JC.seq (JC.region (JO.v (Yv.move rfl) (by decide) (JO.v (Yv.nilCheck rfl) (by decide) ?_))))))
  refine JO.v (Yv.fieldAddr fa_218_1 rfl) (by decide) (JO.v (Yv.load1 one_31 rfl zq2) (by decide) (JO.v (Yv.bin rfl rfl BinR.neq_i) (by decide) (JO.nil (JQ.then_normal (JC.cond rfl (fun hc2 => ?_) (fun hc2 => ?_))))))
  ·try simp only [decide_eq_true_eq, decide_eq_false_iff_not, Bool.not_eq_true', Bool.not_eq_false', ne_eq, Decidable.not_not, Bool.not_eq_true, Bool.and_eq_true, Bool.or_eq_true, BitVec.reduceToNat] at hc2
   rw [hsn, Rdr.go_bad hc2] at hgo
   have hO : r.naO m = [] := congrArg Prod.fst hgo.symm
   have hA : r.naA m = rk.aft 32 := congrArg Prod.snd hgo.symm
   refine JC.nilRow 40 4 ?_
   refine JC.seq (JC.region (JO.v (Yv.assign rfl) (by decide) (JO.nil (JQ.then_normal ?_))))
   refine JC.ret ?_
   refine JQ.then_ret ?_
   refine JQ.block_ret ?_
   refine JQ.then_ret ?_
   refine JQ.then_ret ?_
   refine JQ.block_ret ?_
   refine JQ.then_ret ?_
   exact JQ.done (.inr rfl) (Γ' := [Res.rd _ (rk.aft 32).b.length 1 ((rk.aft 32).b.map u8)]) (H' := [Res.row (.slice none 0 0) 0 40 4 [], Res.cells p [_, it (rk.aft 32).e] 218]) (res1 rfl (RV.tmp rfl)) (Subs.sub zq3) (Picks.perm zq1) ⟨_, trivial, by rw [hA], by rw [hO, hA] <;> rfl⟩
  ·try simp only [decide_eq_true_eq, decide_eq_false_iff_not, Bool.not_eq_true', Bool.not_eq_false', ne_eq, Decidable.not_not, Bool.not_eq_true, Bool.and_eq_true, Bool.or_eq_true, BitVec.reduceToNat] at hc2
   have hal2 := Rdr.aft_len hc2
   refine JC.skip (JQ.then_normal (JC.region (JO.v (Yv.move rfl) (by decide) ?_)))
   first | refine JO.v (Yv.loadOwn agg_40 zq7 rfl zq11) (by decide) ?_ | refine JO.v (Yv.loadOwnAt agg_40 zq7 rfl zq11) (by decide) ?_ | refine JO.v (Yv.loadRow agg_40 zq7 rfl zq11) (by decide) ?_ | refine JO.v (Yv.loadRd agg_40 zq6 rfl zq11) (by decide) ?_ | refine JO.v (Yv.loadRo agg_40 zq7 rfl zq11) (by decide) ?_
   refine JO.lit Tryz.underlying38 info_40 rfl rfl (by simp [natV, Value.cells]) (by decide) (by decide) (by unfold maxLen; omega) (by decide) fun v21 => ?_
   refine JO.append Tryz.underlying38 info_40 rfl (by decide) rfl rfl zq15 zq22 (by simp [natV, Value.cells]) (by unfold maxLen; omega) (by omega) (by decide) fun v22 => ?_
   refine JO.v (Yv.assign rfl) (by decide) (JO.nil ?_)
   refine JQ.block_normal ?_
   refine JQ.then_normal (JC.region (JO.v (Yv.as (v' := u64 (BitVec.ofNat 64 (k + 1))) (Yv.bin rfl rfl (BinR.add_u64 (b := 1#64))) (congrArg u64 (by apply BitVec.eq_of_toNat_eq; simp))) (by decide) (JO.v (Yv.move rfl) (by decide) (JO.nil ?_))))
   rw [natCells_snoc, len_snoc acc (ofBytes (rk.out 32))]
   refine JQ.head ((k + 1, acc ++ [ofBytes (rk.out 32)]), rk.aft 32, _, _) zq12 (Subs.sub zq3) (Picks.perm zq1) ?_
   exact ⟨⟨by dsimp only; omega, by simp [hal], ofBytes4 _ _ ha4, by dsimp only; omega, by dsimp only; rw [← hgo, hsn, Rdr.go_ok hc2]⟩, by dsimp only; omega⟩
 ·try simp only [decide_eq_true_eq, decide_eq_false_iff_not, Bool.not_eq_true', Bool.not_eq_false', ne_eq, Decidable.not_not, Bool.not_eq_true, Bool.and_eq_true, Bool.or_eq_true, BitVec.reduceToNat] at hc1
  rw [BitVec.toNat_ofNat, Nat.mod_eq_of_lt (by omega)] at hc1
  obtain rfl : k = (r.cnt m).toNat := by omega
  rw [Nat.sub_self] at hgo
  have hO : r.naO m = acc := congrArg Prod.fst hgo.symm
  have hA : r.naA m = rk := congrArg Prod.snd hgo.symm
  refine JC.exit ?_
  refine JQ.then_exit ?_
  refine JQ.then_exit ?_
  refine JQ.block_exit ?_
  refine JQ.then_normal (JC.seq (JC.region (JO.v (Yv.move rfl) (by decide) (JO.v (Yv.assign rfl) (by decide) (JO.nil (JQ.then_normal ?_))))))
  refine JC.ret ?_
  exact JQ.done (.inr rfl) (Γ' := [Res.rd _ rk.b.length 1 (rk.b.map u8)]) (H' := [Res.row _ acc.length 40 4 (natCells acc), Res.cells p [_, it rk.e] 218]) (res1 rfl (RV.tmp rfl)) (Subs.sub zq3) (Picks.perm zq1) ⟨_, trivial, by rw [hA], by rw [hO, hA] <;> rfl⟩
end Go.Proofs.YtmhiapebljfebaaGreatDoor

/- Walks: the document's reader. -/
namespace Go.Proofs.YtmhiapebljfebaaGreatDoor
open Go.RowKit
set_option maxRecDepth 100000
set_option linter.unusedVariables false
set_option linter.unusedSimpArgs false
theorem f154_spec (p : Nat) (bv : Value) (a e err : Int) :
  Spec Tryz.prog 154 #[(ptr p 0), (it err)] [] [Res.cells p [bv, it a, it e] 159]
   (fun r Γ' H' => r = .tuple #[] ∧ Γ' = [] ∧ H' = [Res.cells p [bv, it a, it (if e = 0 then err else e)] 159]) := by
 refine Spec.of_args Tryz.func154 rfl Tryz.ntmps154 (by simp) fun w => ?_
 refine .seq (.region ?_)
 refine .w (.move rfl) (.w (.nilCheck rfl) (.w (.fieldAddr fa_159_2 rfl) (.w (.ld one_31 rfl) (.w (.bin rfl rfl BinR.eql_i) ?_))))
 refine .nil (.tn ?_)
 refine .cn rfl (fun hc1 => ?_) (fun hc1 => ?_)
 ·refine .region (.w (.move rfl) (.w (.move rfl) (.w (.nilCheck rfl) (.w (.fieldAddr fa_159_2 rfl) ?_))))
  first | refine .s1 sz_31 ?_ | refine .sr1 sz_31 ?_
  refine .nil ?_
  exact .dn [] [Res.cells p [bv, it a, it err] 159] (res_none rfl) ⟨rfl, rfl, by rw [if_pos hc1]⟩
 ·refine .skip ?_
  exact .dn [] [Res.cells p [bv, it a, it e] 159] (res_none rfl) ⟨rfl, rfl, by rw [if_neg hc1]⟩

theorem f153_spec (p : Nat) (bv : Value) (B : B8) (po : Nat) (r : Rdr) (hl : RdL B po r) (hB : B.length ≤ 1000000) (n : Nat) (hn : n ≤ 1000000) :
  Spec Tryz.prog 153 #[(ptr p 0), (it (n : Int))] [Res.rd bv B.length 1 (B.map u8)] [Res.cells p [bv, it (po : Int), it r.e] 159]
   (fun v Γ' H' => ∃ po' : Nat, RdL B po' (r.aft n) ∧ Γ' = [Res.rd v (r.out n).length 1 ((r.out n).map u8)] ∧ H' = [Res.cells p [bv, it (po' : Int), it (r.aft n).e] 159]) := by
 refine Spec.of_args Tryz.func153 rfl Tryz.ntmps153 (by simp) fun w => ?_
 have hle := hl.le
 refine .seq (.region ?_)
 refine .w (.assign rfl) ?_
 refine .nil (.tn ?_)
 refine .mt (ι := Unit) (fun x => True) (fun T _ => T) (fun T _ => T) (fun T x => Res.cells p [bv, it (po : Int), it (r.aft n).e] 159 :: T) [0, 1, 4, 19, 20, 21, 22, 23, 24, 25, 26, 27, 28, 29, 30, 31, 32, 33, 34, 35, 36, 37, 38, 39, 40, 41, 42, 43, 44, 45, 46, 47] [Res.cells p [bv, it (po : Int), it r.e] 159] ?_ (fun x hx => ?_)
 ·refine .seq ?_
  refine JC.draw (.one 0 (.one 1 (.one 2 (.one 3 (.one 4 (.one 5 (.one 6 (.one 7 (.one 8 (.one 9 (.one 10 (.one 11 .nil)))))))))))) (fun i => ([] : List Nat).contains i) (fun i => ([] : List Nat).contains i) (fun i => ([0, 1, 2, 3, 5, 6, 7, 8, 10, 11] : List Nat).contains i) mixed (by kernel_rfl) (by decide) (by kernel_rfl) ?_
  refine .uw rfl (.move rfl) (.uw rfl (.move rfl) (.uw rfl (.nilCheck rfl) (.uw rfl (.fieldAddr fa_159_0 rfl) (.w rfl (.ld one_79 rfl) (.uw rfl (.len Tryz.underlying79 rfl) (.uw rfl (.move rfl) ?_))))))
  refine .uw rfl (.nilCheck rfl) (.uw rfl (.fieldAddr fa_159_1 rfl) (.w rfl (.ld one_3 rfl) (.uw rfl (.bin rfl rfl (BinR.sub_i (by first | (constructor <;> omega) | (constructor <;> simp <;> omega)))) (.uw rfl (.bin rfl rfl BinR.gtr_i) ?_))))
  refine .nil (.tn ?_)
  refine .cn rfl (fun hc1 => ?_) (fun hc1 => ?_)
  ·refine .region (.w (.move rfl) (.c (f154_spec p bv (po : Int) r.e 3) body_154 ?_))
   refine .nil ?_
   first | rw [hl.e1 (n := n) (by omega)] | rw [hl.e2 (n := n) (by omega)]
   refine .hd () ?_
   trivial
  ·refine .skip ?_
   first | rw [hl.e1 (n := n) (by omega)] | rw [hl.e2 (n := n) (by omega)]
   refine .hd () ?_
   trivial
 ·obtain ⟨⟩ := x
  refine .seq (.seq (.region ?_))
  refine .w (.move rfl) (.w (.nilCheck rfl) (.w (.fieldAddr fa_159_2 rfl) (.w (.ld one_31 rfl) (.w (.bin rfl rfl BinR.neq_i) ?_))))
  refine .nil (.tn ?_)
  refine .cn rfl (fun hc2 => ?_) (fun hc2 => ?_)
  ·have hO : r.out n = [] := by
    by_cases h0 : r.e = 0
    ·by_cases h1 : B.length < po + n
     ·exact (hl.short h0 h1).2
     ·exact absurd (by rw [(hl.take h0 (by omega)).1]) hc2
    ·exact (aft_stuck h0 n).2
   refine .seq (.region ?_)
   refine JO.nilRd 1 ?_
   refine .w (.assign rfl) ?_
   refine .nil (.tn (.ret (.then_ret ?_)))
   exact .dn [Res.rd (.slice none 0 0) 0 1 []] [Res.cells p [bv, it (po : Int), it (r.aft n).e] 159] (res1 rfl (.tmp rfl)) ⟨po, .bad hle hc2, (by rw [hO]; rfl), rfl⟩
  ·have h0 : r.e = 0 := by
    by_cases h0 : r.e = 0
    ·exact h0
    ·rw [(aft_stuck h0 n).1] at hc2; exact absurd hc2 h0
   have hpn : po + n ≤ B.length := by
    by_cases h1 : B.length < po + n
    ·have h3 := (hl.short h0 h1).1; rw [hc2] at h3; cases h3
    ·omega
   obtain ⟨t1, t2, t3⟩ := hl.take h0 hpn
   refine .skip (.tn (.seq (.region ?_)))
   refine .w (.move rfl) (.w (.move rfl) (.w (.nilCheck rfl) (.w (.fieldAddr fa_159_1 rfl) (.w (.ld one_3 rfl) (.w (.move rfl) (.w (.asI ((po + n : Nat) : Int) (.bin rfl rfl (BinR.add_i (by first | (constructor <;> omega) | (constructor <;> simp <;> omega))))) ?_))))))
   refine .w (.nilCheck rfl) (.w (.fieldAddr fa_159_1 rfl) ?_)
   first | refine .s1 sz_3 ?_ | refine .sr1 sz_3 ?_
   refine .nil (.tn (.seq ?_))
   refine JC.draw (.one 0 (.one 1 (.one 2 (.one 3 (.one 4 (.one 5 (.one 6 (.one 7 (.one 8 (.one 9 (.one 10 (.one 11 (.one 12 (.one 13 (.one 14 (.one 15 .nil)))))))))))))))) (fun i => ([] : List Nat).contains i) (fun i => ([] : List Nat).contains i) (fun i => ([0, 1, 2, 4, 5, 6, 8, 9, 10, 11, 12, 14, 15] : List Nat).contains i) mixed (by kernel_rfl) (by decide) (by kernel_rfl) ?_
   refine .uw rfl (.move rfl) (.uw rfl (.nilCheck rfl) (.uw rfl (.fieldAddr fa_159_0 rfl) (.w rfl (.ld one_79 rfl) (.uw rfl (.move rfl) (.uw rfl (.nilCheck rfl) (.uw rfl (.fieldAddr fa_159_1 rfl) ?_))))))
   refine .w rfl (.ld one_3 rfl) (.uw rfl (.move rfl) (.uw rfl (.asI (po : Int) (.bin rfl rfl (BinR.sub_i (by first | (constructor <;> omega) | (constructor <;> simp <;> omega))))) (.uw rfl (.move rfl) (.uw rfl (.nilCheck rfl) (.uw rfl (.fieldAddr fa_159_1 rfl) (.w rfl (.ld one_3 rfl) ?_))))))
   refine JR.cutRd (v := bv) po (po + n) zq7 (by omega) (by omega) ?_
   rw [rd_mid8 hpn]
   refine .uw rfl (.cutRd (l := po) (h := (po + n)) Tryz.underlying79 sz_5 rfl zq7 ⟨_, rfl⟩ ⟨_, rfl⟩ zq25 zq25) (.uw rfl (.assign rfl) ?_)
   refine .nil (.tn (.ret ?_))
   exact .dn [Res.rd (cutV 1 bv po (po + n)) ((B.drop po).take n).length 1 (((B.drop po).take n).map u8)] [Res.cells p [bv, it ((po + n : Nat) : Int), it (r.aft n).e] 159] (res1 rfl (.tmp rfl)) ⟨po + n, t3, (by rw [t2]), rfl⟩

theorem f105_spec (p : Nat) (bv : Value) (B : B8) (po : Nat) (r : Rdr) (hl : RdL B po r) (hB : B.length ≤ 1000000) (lim : BitVec 64) :
  Spec Tryz.prog 105 #[(ptr p 0), (u64 lim)] [Res.rd bv B.length 1 (B.map u8)] [Res.cells p [bv, it (po : Int), it r.e] 159]
   (fun o Γ' H' => ∃ po' : Nat, RdL B po' (r.smA lim) ∧ o = u64 (r.sm lim) ∧ Γ' = [] ∧ H' = [Res.cells p [bv, it (po' : Int), it (r.smA lim).e] 159]) := by
 refine Spec.of_args Tryz.func105 rfl Tryz.ntmps105 (by simp) fun w => ?_
 have hk9 := r.k8.isLt
 have hO8 := Rdr.smO_le r
 refine .seq (.region ?_)
 refine .w (.assign rfl) ?_
 refine .nil (.tn (.seq (.region ?_)))
 refine .w (.move rfl) (.cs (f153_spec p bv B po r hl hB 1 (by omega)) body_153 ?_)
 rintro v10 _ _ ⟨p1, hl1, rfl, rfl⟩
 refine .ap ?_
 refine .ap ?_
 refine .w (.assign rfl) ?_
 refine .nil (.tn (.seq (.seq (.region ?_))))
 refine .w (.move rfl) (.w (.nilCheck rfl) (.w (.fieldAddr fa_159_2 rfl) (.w (.ld one_31 rfl (hj := by first | exact gm (d := 0) (by first | omega | (simp; done) | (simp; omega)) | rfl | exact tab_get zq16 | exact gm (d := 0) zq16)) (.w (.bin rfl rfl BinR.neq_i) ?_))))
 refine .nil (.tn ?_)
 refine .cn rfl (fun hc1 => ?_) (fun hc1 => ?_)
 ·refine .seq (.region ?_)
  refine .w (.assign rfl) ?_
  refine .nil (.tn (.ret (.then_ret ?_)))
  obtain ⟨s1, _, s2⟩ := sm_1 (lim := lim) hc1
  exact .dn [] [Res.cells p [bv, it (p1 : Int), it (r.aft 1).e] 159] (res1 rfl (.tmp rfl)) ⟨p1, (by rw [s2]; exact hl1), (by first | (rw [s1]; done) | (rw [s1]; rfl)), rfl, (by rw [s2])⟩
 ·have h1 : (r.aft 1).e = 0 := hc1
  rw [(out1 h1).1]
  refine .skip (.tn (.seq (.seq (.region ?_))))
  refine .w (.move rfl) (.w (.ix1 (j := 0) Tryz.underlying79 sz_5 rfl rfl) (.w (.ld one_5 rfl (hj := by first | exact gm (d := 0) (by first | omega | (simp; done) | (simp; omega)) | rfl | exact tab_get zq16 | exact gm (d := 0) zq16)) (.w (.bin rfl rfl (BinR.gtr_u8 (b := 8#8))) ?_)))
  refine .nil (.tn ?_)
  refine .cn rfl (fun hc2 => ?_) (fun hc2 => ?_)
  ·try simp only [BitVec.reduceToNat] at hc2
   have hc2' : r.k8.toNat > 8 := hc2
   refine .seq (.region ?_)
   refine .w (.move rfl) (.c (f154_spec p bv (p1 : Int) (r.aft 1).e 31) body_154 ?_)
   rw [← wrong_e]
   refine .nil (.tn (.seq (.region ?_)))
   refine .w (.assign rfl) ?_
   refine .nil (.tn (.ret (.then_ret ?_)))
   obtain ⟨s1, s2⟩ := sm_2 (lim := lim) h1 hc2'
   exact .dn [] [Res.cells p [bv, it (p1 : Int), it ((r.aft 1).wrong 31).e] 159] (res1 rfl (.tmp rfl)) ⟨p1, (by rw [s2]; exact hl1.wrong (by decide)), (by first | (rw [s1]; done) | (rw [s1]; rfl)), rfl, (by rw [s2])⟩
  ·try simp only [BitVec.reduceToNat] at hc2
   have hc2' : ¬ r.k8.toNat > 8 := hc2
   refine .skip (.tn (.seq (.region ?_)))
   refine .w (.move rfl) (.w (.move rfl) (.w (.ix1 (j := 0) Tryz.underlying79 sz_5 rfl rfl) (.w (.ld one_5 rfl (hj := by first | exact gm (d := 0) (by first | omega | (simp; done) | (simp; omega)) | rfl | exact tab_get zq16 | exact gm (d := 0) zq16)) (.w (.conv_u8_i Tryz.underlying5 Tryz.underlying3 rfl) (.cs (f153_spec p bv B p1 (r.aft 1) hl1 hB r.k8.toNat (by omega)) body_153 ?_)))))
   rintro v27 _ _ ⟨p2, hl2, rfl, rfl⟩
   refine .ap ?_
   refine .ap ?_
   rw [← (sm_r hc2').2]
   refine .w (.assign rfl) ?_
   refine .nil (.tn (.seq (.seq (.region ?_))))
   refine .w (.move rfl) (.w (.nilCheck rfl) (.w (.fieldAddr fa_159_2 rfl) (.w (.ld one_31 rfl (hj := by first | exact gm (d := 0) (by first | omega | (simp; done) | (simp; omega)) | rfl | exact tab_get zq16 | exact gm (d := 0) zq16)) (.w (.bin rfl rfl BinR.neq_i) ?_))))
   refine .nil (.tn ?_)
   refine .cn rfl (fun hc3 => ?_) (fun hc3 => ?_)
   ·refine .seq (.region ?_)
    refine .w (.assign rfl) ?_
    refine .nil (.tn (.ret (.then_ret ?_)))
    obtain ⟨s1, s2⟩ := sm_3 (lim := lim) h1 hc2' hc3
    exact .dn [] [Res.cells p [bv, it (p2 : Int), it ((r.aft 1).aft r.k8.toNat).e] 159] (res1 rfl (.tmp rfl)) ⟨p2, (by rw [s2]; exact hl2), (by first | (rw [s1]; done) | (rw [s1]; rfl)), rfl, (by rw [s2])⟩
   ·have h3 : ((r.aft 1).aft r.k8.toNat).e = 0 := hc3
    refine .skip (.tn (.seq (.region ?_)))
    refine .w (.assign rfl) ?_
    refine .nil (.tn (.seq (.seq (.region ?_))))
    refine .w (.assign rfl) ?_
    refine .nil (.tn (.block ?_))
    refine .lp (ι := Nat) (fun x => x ≤ r.smO.length) (fun T x => (8, it (x : Int)) :: (7, u64 (word0 (r.smO.take x))) :: T) (fun T _ => T) (fun T _ => T) (fun x => r.smO.length - x) 0 [0, 1, 4, 6, 47, 48, 49, 50, 51, 52, 53, 54, 55, 56, 58, 59, 60, 61, 63] ?_ (fun x hx => ?_)
    ·exact Nat.zero_le _
    obtain ⟨k, hk⟩ : ∃ k, x = k := ⟨_, rfl⟩
    rw [hk] at hx ⊢
    refine .seq (.seq (.region ?_))
    refine .w (.move rfl) (.w (.move rfl) (.w (.len Tryz.underlying79 rfl) (.w (.bin rfl rfl BinR.lss_i) ?_)))
    refine .nil (.tn ?_)
    refine .cn rfl (fun hc4 => ?_) (fun hc4 => ?_)
    ·refine .skip (.tn (.seq (.block (.region ?_))))
     refine .w (.move rfl) (.w (.bin rfl rfl (BinR.mul_u64 (b := 256#64))) (.w (.move rfl) (.w (.move rfl) (.w (.ix1 Tryz.underlying79 sz_5 rfl rfl) (.w (.ld one_5 rfl (hj := by first | exact gm (d := 0) (by first | omega | (simp; done) | (simp; omega)) | rfl | exact tab_get zq16 | exact gm (d := 0) zq16)) (.w (.conv_u8_u64 Tryz.underlying5 Tryz.underlying22 rfl) ?_))))))
     refine .w (.as (v' := u64 (word0 (r.smO.take (k + 1)))) (.bin rfl rfl (BinR.add_u64)) (congrArg u64 (word0_take (by omega) hO8).symm)) (.w (.assign rfl) ?_)
     refine .nil (.block_normal (.tn (.region ?_)))
     refine .w (.move rfl) (.w (.bin rfl rfl (BinR.add_i (by first | (constructor <;> omega) | (constructor <;> simp <;> omega)))) (.w (.assign rfl) (.nil ?_)))
     refine .hd (k + 1) ?_
     exact ⟨by omega, by omega⟩
    ·have he : k = r.smO.length := by omega
     subst he
     rw [List.take_length]
     refine .exit (.then_exit (.then_exit (.block_exit (.tn (.seq (.seq (.region ?_)))))))
     refine .w (.move rfl) (.w (.len Tryz.underlying79 rfl) (.w (.bin rfl rfl BinR.gtr_i) ?_))
     refine .join 6 55 (.bool (decide (0 < r.smO.length ∧ r.smO.getD 0 0 = 0))) ?_ ?_
     ·refine .w (.move rfl) ?_
      refine .gn (g := 49) rfl (fun hg53 hg53' => ?_) (fun hg53 hg53' => ?_)
      ·refine .gt (g := 50) rfl rfl hg53 ?_
       refine .w (.move rfl) ?_
       refine .gt (g := 50) rfl rfl hg53 ?_
       refine .w (.ix1 (j := 0) Tryz.underlying79 sz_5 rfl rfl) ?_
       refine .gt (g := 50) rfl rfl hg53 ?_
       refine .w (.ld one_5 rfl (hj := by first | exact gm (d := 0) (by first | omega | (simp; done) | (simp; omega)) | rfl | exact tab_get zq16 | exact gm (d := 0) zq16)) ?_
       refine .gt (g := 50) rfl rfl hg53 ?_
       refine .w (.bin rfl rfl (BinR.eql_u8 (b := 0#8))) (.w (.pick1 rfl hg53 rfl) (.nil ?_))
       refine .head () (by first | (refine ⟨by first | rfl | exact congrArg (fun b => some (Value.bool b)) (decide_eq_false (fun h => by have := h.1; omega)).symm | exact congrArg (fun b => some (Value.bool b)) (decide_eq_decide.2 ⟨fun h => ⟨by omega, h⟩, fun h => h.2⟩), ?_⟩; repeat (first | exact trivial | refine ⟨rfl, ?_⟩))) (fun _ h => h) (Picks.perm zq1) ?_
       trivial
      ·refine .gf (g := 50) rfl rfl hg53 (by decide) ?_
       refine .gf (g := 50) rfl rfl hg53 (by decide) ?_
       refine .gf (g := 50) rfl rfl hg53 (by decide) ?_
       refine .gf (g := 50) rfl rfl hg53 (by decide) ?_
       refine .w (.pick0 rfl hg53 rfl) (.nil ?_)
       refine .head () (by first | (refine ⟨by first | rfl | exact congrArg (fun b => some (Value.bool b)) (decide_eq_false (fun h => by have := h.1; omega)).symm | exact congrArg (fun b => some (Value.bool b)) (decide_eq_decide.2 ⟨fun h => ⟨by omega, h⟩, fun h => h.2⟩), ?_⟩; repeat (first | exact trivial | refine ⟨rfl, ?_⟩))) (fun _ h => h) (Picks.perm zq1) ?_
       trivial
     ·refine .nil (.tn ?_)
      refine .cn rfl (fun hc5 => ?_) (fun hc5 => ?_)
      ·refine .seq (.region ?_)
       refine .w (.move rfl) (.c (f154_spec p bv (p2 : Int) ((r.aft 1).aft r.k8.toNat).e 31) body_154 ?_)
       rw [← wrong_e]
       refine .nil (.tn (.seq (.region ?_)))
       refine .w (.assign rfl) ?_
       refine .nil (.tn (.ret (.then_ret ?_)))
       obtain ⟨s1, s2⟩ := sm_4 (lim := lim) h1 hc2' h3 hc5
       exact .dn [] [Res.cells p [bv, it (p2 : Int), it (((r.aft 1).aft r.k8.toNat).wrong 31).e] 159] (res1 rfl (.tmp rfl)) ⟨p2, (by rw [s2]; exact hl2.wrong (by decide)), (by first | (rw [s1]; done) | (rw [s1]; rfl)), rfl, (by rw [s2])⟩
      ·refine .skip (.tn (.seq (.seq (.region ?_))))
       refine .w (.move rfl) (.w (.move rfl) (.w (.bin rfl rfl (BinR.gtr_u64)) ?_))
       refine .nil (.tn ?_)
       refine .cn rfl (fun hc6 => ?_) (fun hc6 => ?_)
       ·refine .seq (.region ?_)
        refine .w (.move rfl) (.c (f154_spec p bv (p2 : Int) ((r.aft 1).aft r.k8.toNat).e 2) body_154 ?_)
        rw [← wrong_e]
        refine .nil (.tn (.seq (.region ?_)))
        refine .w (.assign rfl) ?_
        refine .nil (.tn (.ret (.then_ret ?_)))
        obtain ⟨s1, s2⟩ := sm_5 (lim := lim) h1 hc2' h3 hc5 hc6
        exact .dn [] [Res.cells p [bv, it (p2 : Int), it (((r.aft 1).aft r.k8.toNat).wrong 2).e] 159] (res1 rfl (.tmp rfl)) ⟨p2, (by rw [s2]; exact hl2.wrong (by decide)), (by first | (rw [s1]; done) | (rw [s1]; rfl)), rfl, (by rw [s2])⟩
       ·refine .skip (.tn (.seq (.region ?_)))
        refine .w (.move rfl) (.w (.assign rfl) ?_)
        refine .nil (.tn (.ret ?_))
        obtain ⟨s1, s2⟩ := sm_6 (lim := lim) h1 hc2' h3 hc5 hc6
        exact .dn [] [Res.cells p [bv, it (p2 : Int), it ((r.aft 1).aft r.k8.toNat).e] 159] (res1 rfl (.tmp rfl)) ⟨p2, (by rw [s2]; exact hl2), (by first | (rw [s1]; done) | (rw [s1]; rfl)), rfl, (by rw [s2])⟩

theorem f108_spec (p : Nat) (bv : Value) (B : B8) (po : Nat) (r : Rdr) (hl : RdL B po r) (hB : B.length ≤ 1000000) :
  Spec Tryz.prog 108 #[(ptr p 0)] [Res.rd bv B.length 1 (B.map u8)] [Res.cells p [bv, it (po : Int), it r.e] 159]
   (fun o Γ' H' => o = it r.fin ∧ Γ' = [] ∧ H' = [Res.cells p [bv, it (po : Int), it r.e] 159]) := by
 refine Spec.of_args Tryz.func108 rfl Tryz.ntmps108 (by simp) fun w => ?_
 refine .seq (.region ?_)
 refine .w (.assign rfl) ?_
 refine .nil (.tn (.seq (.seq ?_)))
 refine JC.draw (.one 0 (.one 1 (.one 2 (.one 3 (.one 4 (.one 5 (.one 6 (.one 7 (.one 8 (.one 9 (.one 10 (.one 11 (.one 12 (.one 13 (.one 14 (.one 15 (.one 16 .nil))))))))))))))))) (fun i => ([] : List Nat).contains i) (fun i => ([] : List Nat).contains i) (fun i => ([0, 1, 2, 4, 5, 6, 7, 8, 10, 11, 12, 14, 15, 16] : List Nat).contains i) mixed (by kernel_rfl) (by decide) (by kernel_rfl) ?_
 refine .uw rfl (.move rfl) (.uw rfl (.nilCheck rfl) (.uw rfl (.fieldAddr fa_159_2 rfl) (.w rfl (.ld one_31 rfl) (.uw rfl (.bin rfl rfl BinR.eql_i) (.uw rfl (.move rfl) ?_)))))
 refine JR.gsplit (g := 7) rfl (fun hg8 => ?_) (fun hg8 => ?_)
 ·have hg8' := hg8
  try simp only [decide_eq_true_eq, decide_eq_false_iff_not, Bool.not_eq_true', Bool.not_eq_false', ne_eq, Decidable.not_not, Bool.not_eq_true, Bool.and_eq_true, Bool.or_eq_true, BitVec.reduceToNat] at hg8'
  refine JR.ugt (g := 8) rfl rfl rfl rfl rfl hg8 (.move rfl) (by decide) ?_
  refine JR.ugt (g := 8) rfl rfl rfl rfl rfl hg8 (.nilCheck rfl) (by decide) ?_
  refine JR.ugt (g := 8) rfl rfl rfl rfl rfl hg8 (.fieldAddr fa_159_1 rfl) (by decide) ?_
  refine JR.vgt (g := 8) rfl rfl rfl rfl rfl hg8 (.ld one_3 rfl) (by decide) ?_
  refine JR.ugt (g := 8) rfl rfl rfl rfl rfl hg8 (.move rfl) (by decide) ?_
  refine JR.ugt (g := 8) rfl rfl rfl rfl rfl hg8 (.nilCheck rfl) (by decide) ?_
  refine JR.ugt (g := 8) rfl rfl rfl rfl rfl hg8 (.fieldAddr fa_159_0 rfl) (by decide) ?_
  refine JR.vgt (g := 8) rfl rfl rfl rfl rfl hg8 (.ld one_79 rfl) (by decide) ?_
  refine JR.ugt (g := 8) rfl rfl rfl rfl rfl hg8 (.len Tryz.underlying79 rfl) (by decide) ?_
  refine JR.ugt (g := 8) rfl rfl rfl rfl rfl hg8 (.bin rfl rfl BinR.lss_i) (by decide) ?_
  refine JR.u rfl rfl rfl (Yv.pick1 rfl hg8 rfl) (by decide) ?_
  refine .nil (.tn ?_)
  refine .cn rfl (fun hc1 => ?_) (fun hc1 => ?_)
  ·refine .seq (.region ?_)
   refine .w (.assign rfl) ?_
   refine .nil (.tn (.ret (.then_ret ?_)))
   exact .dn [] [Res.cells p [bv, it (po : Int), it r.e] 159] (res1 rfl (.tmp rfl)) ⟨by rw [fin_of hl, if_pos ⟨hg8', by omega⟩], rfl, rfl⟩
  ·refine .skip (.tn (.seq (.region ?_)))
   refine .w (.move rfl) (.w (.nilCheck rfl) (.w (.fieldAddr fa_159_2 rfl) (.w (.ld one_31 rfl) (.w (.assign rfl) ?_))))
   refine .nil (.tn (.ret ?_))
   exact .dn [] [Res.cells p [bv, it (po : Int), it r.e] 159] (res1 rfl (.tmp rfl)) ⟨by rw [fin_of hl, if_neg (fun h => by have := h.2; omega)], rfl, rfl⟩
 ·have hg8' := hg8
  try simp only [decide_eq_true_eq, decide_eq_false_iff_not, Bool.not_eq_true', Bool.not_eq_false', ne_eq, Decidable.not_not, Bool.not_eq_true, Bool.and_eq_true, Bool.or_eq_true, BitVec.reduceToNat] at hg8'
  refine JR.gf (g := 8) rfl rfl rfl rfl hg8 (by decide) ?_
  refine JR.gf (g := 8) rfl rfl rfl rfl hg8 (by decide) ?_
  refine JR.gf (g := 8) rfl rfl rfl rfl hg8 (by decide) ?_
  refine JR.gf (g := 8) rfl rfl rfl rfl hg8 (by decide) ?_
  refine JR.gf (g := 8) rfl rfl rfl rfl hg8 (by decide) ?_
  refine JR.gf (g := 8) rfl rfl rfl rfl hg8 (by decide) ?_
  refine JR.gf (g := 8) rfl rfl rfl rfl hg8 (by decide) ?_
  refine JR.gf (g := 8) rfl rfl rfl rfl hg8 (by decide) ?_
  refine JR.gf (g := 8) rfl rfl rfl rfl hg8 (by decide) ?_
  refine JR.gf (g := 8) rfl rfl rfl rfl hg8 (by decide) ?_
  refine JR.u rfl rfl rfl (Yv.pick0 rfl hg8 rfl) (by decide) ?_
  refine .nil (.tn ?_)
  refine .k0 rfl rfl ?_
  refine .skip (.tn (.seq (.region ?_)))
  refine .w (.move rfl) (.w (.nilCheck rfl) (.w (.fieldAddr fa_159_2 rfl) (.w (.ld one_31 rfl) (.w (.assign rfl) ?_))))
  refine .nil (.tn (.ret ?_))
  exact .dn [] [Res.cells p [bv, it (po : Int), it r.e] 159] (res1 rfl (.tmp rfl)) ⟨by rw [fin_of hl, if_neg (fun h => hg8' h.1)], rfl, rfl⟩
end Go.Proofs.YtmhiapebljfebaaGreatDoor

/- Walks: bytes that are a number. -/
namespace Go.Proofs.YtmhiapebljfebaaGreatDoor
open Go.RowKit
set_option maxRecDepth 100000
set_option linter.unusedVariables false
set_option linter.unusedSimpArgs false
set_option maxHeartbeats 1000000 in
theorem f77_spec (n : Nat) :
  Spec Tryz.prog 77 #[(.agg (dgs n).toArray)] [] []
   (fun r Γ' H' => r = (.agg ((wd n).map u64).toArray) ∧ Γ' = [] ∧ H' = []) := by
 refine Spec.of_args Tryz.func77 rfl Tryz.ntmps77 (by simp) fun w => ?_
 refine .seq (.region ?_)
 refine .bx fun b1 => ?_
 refine .al zero_40 fun b2 => ?_
 refine .nil (.tn (.seq (.region ?_)))
 refine .w (.as (v' := .agg ((wd 0).map u64).toArray) (.build bld_40 rfl rfl) rfl) (.al zero_40 fun b3 => ?_)
 first | refine .sa sz_40 ?_ | refine .so sz_40 ?_ | refine .sr sz_40 ?_
 refine .nil (.tn (.seq (.seq (.region ?_))))
 refine .w (.assign rfl) ?_
 refine .nil (.tn (.block ?_))
 refine .lp (ι := Nat) (fun x => x ≤ 32) (fun T x => (1, ptr b1 0) :: (2, ptr b2 0) :: (3, ptr b3 0) :: (4, it (x : Int)) :: T) (fun T _ => T) (fun T x => Res.cells b1 (dgs n) 126 :: Res.cells b2 ((wd 0).map u64) 40 :: Res.cells b3 ((wd (n % 256 ^ x)).map u64) 40 :: T) (fun x => 32 - x) 0 [26] ?_ (fun x hx => ?_) (hH := (by rw [low_0]; repeat (first | exact Picks.nil _ | apply Picks.cons | exact Pull.here _ _ | apply Pull.there)))
 ·exact Nat.zero_le _
 refine .seq (.seq (.region ?_))
 refine .w (.move rfl) (.w (.bin rfl rfl BinR.lss_i) ?_)
 refine .nil (.tn ?_)
 refine .cn rfl (fun hc1 => ?_) (fun hc1 => ?_)
 ·refine .skip (.tn (.seq (.block ?_)))
  refine JC.draw (.one 0 (.one 1 (.one 2 (.one 3 (.one 4 (.one 5 (.one 6 (.one 7 (.one 8 (.one 9 (.one 10 (.one 11 (.one 12 (.one 13 (.one 14 (.one 15 (.one 16 .nil))))))))))))))))) (fun i => ([16] : List Nat).contains i) (fun i => ([16] : List Nat).contains i) (fun i => ([0, 1, 2, 3, 4, 6, 7, 9, 10, 11, 12, 13, 14, 15] : List Nat).contains i) mixed (by kernel_rfl) (by decide) (by kernel_rfl) ?_
  refine .uw rfl (.move rfl) (.uw rfl (.asI ((x / 8 : Nat) : Int) (.bin rfl rfl (BinR.quo_i zq18 zq18 (by first | (constructor <;> omega) | (constructor <;> simp <;> omega))))) (.uw rfl (.move rfl) (.uw rfl (.asI ((x / 8 : Nat) : Int) (.bin rfl rfl (BinR.quo_i zq18 zq18 (by first | (constructor <;> omega) | (constructor <;> simp <;> omega))))) (.uw rfl (.ixA Tryz.underlying40 sz_22 rfl rfl) (.w rfl (.ld one_22 rfl (hj := by first | exact wd_get _ (by omega) | exact dgs_get _ (by omega) | rfl | exact tab_get zq16 | exact gm (d := 0) zq16)) (.uw rfl (.move rfl) ?_))))))
  refine .uw rfl (.ixA Tryz.underlying126 sz_3 rfl rfl) (.w rfl (.ld one_3 rfl (hj := by first | exact wd_get _ (by omega) | exact dgs_get _ (by omega) | rfl | exact tab_get zq16 | exact gm (d := 0) zq16)) (.uw rfl (.as (v' := u64 (BitVec.ofNat 64 (dgN n x))) (.conv_i_u64 Tryz.underlying3 Tryz.underlying22 rfl) (congrArg u64 (by simp))) (.uw rfl (.move rfl) (.uw rfl (.asI ((x % 8 : Nat) : Int) (.bin rfl rfl (BinR.rem_i zq18 zq18))) (.uw rfl (.asI ((8 * (x % 8) : Nat) : Int) (.bin rfl rfl (BinR.mul_i (by first | (constructor <;> omega) | (constructor <;> simp <;> omega))))) (.uw rfl (.as (v' := u64 (BitVec.ofNat 64 (dgN n x) <<< (8 * (x % 8)))) (.bin rfl rfl (BinR.shl_u64_i zq18)) (congrArg (fun k => u64 (BitVec.ofNat 64 (dgN n x) <<< k)) (by omega))) ?_))))))
  refine .uw rfl (.bin rfl rfl (BinR.add_u64)) (.uw rfl (.ixA Tryz.underlying40 sz_22 rfl rfl) ?_)
  first | refine .mw0 rfl (.s1 sz_22) ?_ | refine .mw0 rfl (.sr1 sz_22) ?_
  rintro _ _ _ ⟨rfl, rfl⟩
  refine kp ?_
  refine .nil (.block_normal (.tn (.region ?_)))
  refine .w (.move rfl) (.w (.bin rfl rfl (BinR.add_i (by first | (constructor <;> omega) | (constructor <;> simp <;> omega)))) (.w (.assign rfl) (.nil ?_)))
  rw [low_setv n (by omega)]
  refine .hd (x + 1) ?_
  exact ⟨by omega, by omega⟩
 ·obtain rfl : x = 32 := by omega
  rw [low_32]
  refine .exit (.then_exit (.then_exit (.block_exit (.tn (.seq (.region ?_))))))
  refine .w (.lda agg_40 rfl) ?_
  first | refine .sa sz_40 ?_ | refine .so sz_40 ?_ | refine .sr sz_40 ?_
  refine .nil (.tn (.ret ?_))
  exact .dn [] [] (res1 rfl (.cl agg_40)) ⟨rfl, rfl, rfl⟩

theorem f155_spec (u : Value) (b : B8) (hb : b.length ≤ 32) :
  Spec Tryz.prog 155 #[u] [Res.rd u b.length 1 (b.map u8)] []
   (fun r Γ' H' => r = (.tuple #[.agg ((ofBytes b).map u64).toArray, it 0]) ∧ Γ' = [] ∧ H' = []) := by
 refine Spec.of_args Tryz.func155 rfl Tryz.ntmps155 (by simp) fun w => ?_
 refine .seq (.region ?_)
 refine .al zero_40 fun b2 => ?_
 refine .w (.assign rfl) ?_
 refine .nil (.tn (.seq (.region ?_)))
 refine .al zero_126 fun b4 => ?_
 refine .nil (.tn (.seq (.seq (.region ?_))))
 refine .w (.move rfl) (.w (.len Tryz.underlying79 rfl) (.w (.bin rfl rfl BinR.gtr_i) ?_))
 refine .nil (.tn ?_)
 refine .cn rfl (fun hc1 => ?_) (fun hc1 => ?_)
 ·exfalso; omega
 ·refine .skip (.tn (.seq (.seq (.region ?_))))
  refine .w (.assign rfl) ?_
  refine .nil (.tn (.block ?_))
  refine .lp (ι := Nat) (fun x => x ≤ b.length) (fun T x => (5, it (x : Int)) :: T) (fun T _ => T) (fun T x => Res.cells b4 (ofT2 b x) 126 :: T) (fun x => b.length - x) 0 [0, 2, 3, 4, 27, 28] ?_ (fun x hx => ?_) (hH := (by dsimp only; rw [← ofT2_0]; repeat (first | exact Picks.nil _ | apply Picks.cons | exact Pull.here _ _ | apply Pull.there)))
  ·exact Nat.zero_le _
  obtain ⟨k, hk⟩ : ∃ k, k = x := ⟨_, rfl⟩
  subst hk
  have hk := hx
  refine .seq (.seq (.region ?_))
  refine .w (.move rfl) (.w (.move rfl) (.w (.len Tryz.underlying79 rfl) (.w (.bin rfl rfl BinR.lss_i) ?_)))
  refine .nil (.tn ?_)
  refine .cn rfl (fun hc2 => ?_) (fun hc2 => ?_)
  ·skip
   refine .skip (.tn (.seq (.block (.region ?_))))
   refine .w (.move rfl) (.w (.len Tryz.underlying79 rfl) (.w (.bin rfl rfl (BinR.sub_i (by first | (constructor <;> omega) | (constructor <;> simp <;> omega)))) (.w (.move rfl) (.w (.asI ((b.length - 1 - k : Nat) : Int) (.bin rfl rfl (BinR.sub_i (by first | (constructor <;> omega) | (constructor <;> simp <;> omega))))) (.w (.move rfl) (.w (.move rfl) ?_))))))
   refine .w (.ix1 Tryz.underlying79 sz_5 rfl rfl) (.w (.as (v' := u8 (b.getD k 0)) (.ld one_5 rfl (hj := by exact gm (d := 0) (by omega))) rfl) (.w (.as (v' := it (((b.getD k 0).toNat : Nat) : Int)) (.conv_u8_i Tryz.underlying5 Tryz.underlying3 rfl) rfl) (.w (.ixA Tryz.underlying126 sz_3 rfl rfl) ?_)))
   first | refine .s1 sz_3 ?_ | refine .sr1 sz_3 ?_
   rw [show it (((b.getD k 0).toNat : Nat) : Int) = it (((b.getD k 0).toNat : Nat) : Int) from rfl, ofT2_set hb (by omega)]
   refine .nil (.block_normal (.tn (.region ?_)))
   refine .w (.move rfl) (.w (.asI ((k + 1 : Nat) : Int) (.bin rfl rfl (BinR.add_i (by first | (constructor <;> omega) | (constructor <;> simp <;> omega))))) (.w (.assign rfl) (.nil ?_)))
   refine .hd (k + 1) ?_
   exact ⟨by omega, by omega⟩
  ·obtain rfl : k = b.length := by omega
   rw [ofT2_all hb]
   refine .exit (.then_exit (.then_exit (.block_exit (.tn (.seq (.region ?_))))))
   refine .w (.lda agg_126 rfl) (.c (f77_spec (valB b)) body_77 ?_)
   rw [wd_valB]
   refine .sa sz_40 ?_ (h1 := (natsV_one _))
   refine .w (.assign rfl) ?_
   refine .nil (.tn (.ret ?_))
   exact .dn [] [] (res2 rfl (.cl agg_40) (.tmp rfl)) ⟨rfl, rfl, rfl⟩

theorem f107_spec (p : Nat) (bv : Value) (B : B8) (po : Nat) (r : Rdr) (hl : RdL B po r) (hB : B.length ≤ 1000000) :
  Spec Tryz.prog 107 #[(ptr p 0)] [Res.rd bv B.length 1 (B.map u8)] [Res.cells p [bv, it (po : Int), it r.e] 159]
   (fun o Γ' H' => ∃ po' : Nat, RdL B po' (r.aft 32) ∧ o = natV (ofBytes (r.out 32)) ∧ Γ' = [] ∧ H' = [Res.cells p [bv, it (po' : Int), it (r.aft 32).e] 159]) := by
 refine Spec.of_args Tryz.func107 rfl Tryz.ntmps107 (by simp) fun w => ?_
 have h32 : (r.out 32).length ≤ 32 := by
  unfold Rdr.out
  split
  ·rw [List.length_take]; omega
  ·exact Nat.zero_le _
 refine .seq (.region ?_)
 refine .al zero_40 fun b2 => ?_
 refine .nil (.tn (.seq (.region ?_)))
 refine .w (.move rfl) (.cs (f153_spec p bv B po r hl hB 32 (by omega)) body_153 ?_)
 rintro v7 _ _ ⟨p1, hl1, rfl, rfl⟩
 refine .ap ?_
 refine .ap ?_
 refine .c (f155_spec v7 (r.out 32) h32) body_155 ?_
 refine .w (.move rfl) (.w (.as (v' := .agg ((ofBytes (r.out 32)).map u64).toArray) (.extract rfl rfl) rfl) (.w (.as (v' := it 0) (.extract rfl rfl) rfl) (.al zero_40 fun b3 => ?_)))
 refine .sa sz_40 ?_ (h1 := (natsV_one _))
 refine .w (.assign rfl) ?_
 refine .nil (.tn (.seq (.region ?_)))
 refine .w (.lda agg_40 rfl) (.sa sz_40 ?_ (h1 := (natsV_one _)))
 refine .nil (.tn (.ret ?_))
 exact .dn [] [Res.cells p [bv, it (p1 : Int), it (r.aft 32).e] 159] (res1 rfl (.cl agg_40)) ⟨p1, hl1, rfl, rfl, rfl⟩
end Go.Proofs.YtmhiapebljfebaaGreatDoor

/- Walks: the document's reader of numbers. -/
namespace Go.Proofs.YtmhiapebljfebaaGreatDoor
open Go.RowKit
set_option maxRecDepth 100000
set_option linter.unusedVariables false
set_option linter.unusedSimpArgs false
theorem f106_spec (p : Nat) (bv : Value) (B : B8) (po : Nat) (r : Rdr) (hl : RdL B po r) (hB : B.length ≤ 1000000) :
  Spec Tryz.prog 106 #[(ptr p 0), (it 20)] [Res.rd bv B.length 1 (B.map u8)] [Res.cells p [bv, it (po : Int), it r.e] 159]
   (fun o Γ' H' => ∃ po' : Nat, RdL B po' (r.naA 20) ∧ Γ' = [] ∧ H' = [Res.row o (r.naO 20).length 40 4 (natCells (r.naO 20)), Res.cells p [bv, it (po' : Int), it (r.naA 20).e] 159]) := by
 refine Spec.of_args Tryz.func106 rfl Tryz.ntmps106 (by simp) fun w => ?_
 have hcA : r.cntA 20 = r.smA 20#64 := rfl
 have hcn : r.cnt 20 = r.sm 20#64 := rfl
 have hn20 : (r.cnt 20).toNat ≤ 20 := Rdr.sm_le r 20#64
 refine .seq (.region ?_)
 refine .w (.assign rfl) ?_
 refine .nil (.tn (.seq (.seq (.region ?_))))
 refine .w (.move rfl) (.w (.bin rfl rfl BinR.lss_i) ?_)
 refine .nil (.tn ?_)
 refine .cf rfl ?_
 refine .skip (.tn (.seq (.region ?_)))
 refine .w (.move rfl) (.w (.move rfl) (.w (.as (v' := u64 20#64) (.conv_i_u64 Tryz.underlying3 Tryz.underlying22 rfl) rfl) (.cb (f105_spec p bv B po r hl hB 20#64) body_105 ?_ (h0 := by rintro _ _ _ ⟨_, _, _, h, _⟩; exact h))))
 rintro _ _ ⟨p1, hl1, rfl, _, rfl⟩
 refine .ap ?_
 rw [← hcA, ← hcn]
 refine .w (.assign rfl) ?_
 refine .nil (.tn (.seq (.region ?_)))
 refine JO.nilRow 40 4 ?_
 refine .w (.assign rfl) ?_
 refine .nil (.tn (.seq (.seq (.region ?_))))
 refine .w (.assign rfl) ?_
 refine .nil (.tn (.block ?_))
 refine .lp (ι := (Nat × List W4) × Rdr × Nat × Value) (fun x => x.1.1 ≤ (r.cnt 20).toNat ∧ x.1.2.length = x.1.1 ∧ (∀ ws ∈ x.1.2, ws.length = 4) ∧ RdL B x.2.2.1 x.2.1 ∧ (x.2.1.e = 0 → Rdr.go ((r.cnt 20).toNat - x.1.1) x.1.2 x.2.1 = Rdr.go (r.cnt 20).toNat [] (r.cntA 20)) ∧ (x.2.1.e ≠ 0 → Rdr.go (r.cnt 20).toNat [] (r.cntA 20) = ([], x.2.1))) (fun T x => (7, u64 (BitVec.ofNat 64 x.1.1)) :: (6, x.2.2.2) :: T) (fun T _ => T) (fun T x => Res.cells p [bv, it (x.2.2.1 : Int), it x.2.1.e] 159 :: Res.row x.2.2.2 x.1.2.length 40 4 (natCells x.1.2) :: T) (fun x => (r.cnt 20).toNat - x.1.1) ((0, []), (r.cntA 20), p1, (Value.slice none 0 0)) [0, 4, 5, 33, 34, 35, 36, 37, 38] ?_ (fun x hx => ?_)
 ·exact ⟨Nat.zero_le _, rfl, (fun _ h => absurd h (by simp)), by rw [hcA]; exact hl1, fun _ => rfl, fun he => cnt_bad he⟩
 obtain ⟨⟨k, acc⟩, rk, pk, vo⟩ := x
 obtain ⟨hk, hal, ha4, hlk, hgo, hbad⟩ := hx
 dsimp only at hk hal ha4 hlk hgo hbad ⊢
 refine .seq (.seq (.region ?_))
 refine .w (.move rfl) (.w (.move rfl) (.w (.as (v' := .bool (decide (k < (r.cnt 20).toNat))) (.bin rfl rfl (BinR.lss_u64)) (congrArg Value.bool (decide_eq_decide.2 (by rw [BitVec.toNat_ofNat, Nat.mod_eq_of_lt (by omega)])))) (.w (.move rfl) ?_)))
 refine .join 6 25 (.bool (decide (k < (r.cnt 20).toNat ∧ rk.e = 0))) ?_ ?_
 ·refine .gn (g := 18) rfl (fun hg18 hg18' => ?_) (fun hg18 hg18' => ?_)
  ·refine .gt (g := 19) rfl rfl hg18 ?_
   refine .w (.move rfl) ?_
   refine .gt (g := 19) rfl rfl hg18 ?_
   refine .w (.nilCheck rfl) ?_
   refine .gt (g := 19) rfl rfl hg18 ?_
   refine .w (.fieldAddr fa_159_2 rfl) ?_
   refine .gt (g := 19) rfl rfl hg18 ?_
   refine .w (.ld one_31 rfl) ?_
   refine .gt (g := 19) rfl rfl hg18 ?_
   refine .w (.bin rfl rfl BinR.eql_i) (.w (.pick1 rfl hg18 rfl) (.nil ?_))
   refine .head () zq0 (fun _ h => h) (Picks.perm zq1) ?_
   trivial
  ·refine .gf (g := 19) rfl rfl hg18 (by decide) ?_
   refine .gf (g := 19) rfl rfl hg18 (by decide) ?_
   refine .gf (g := 19) rfl rfl hg18 (by decide) ?_
   refine .gf (g := 19) rfl rfl hg18 (by decide) ?_
   refine .gf (g := 19) rfl rfl hg18 (by decide) ?_
   refine .w (.pick0 rfl hg18 rfl) (.nil ?_)
   refine .head () zq0 (fun _ h => h) (Picks.perm zq1) ?_
   trivial
 ·refine .nil (.tn ?_)
  refine .cn rfl (fun hc2 => ?_) (fun hc2 => ?_)
  ·obtain ⟨hc2a, hc2b⟩ : k < (r.cnt 20).toNat ∧ rk.e = 0 := by simpa using hc2
   have hgn := go_nil hc2a hc2b (hgo hc2b)
   refine .skip (.tn (.seq (.block (.region ?_))))
   refine .w (.move rfl) (.w (.move rfl) (.cb (f107_spec p bv B pk rk hlk hB) body_107 ?_ (h0 := by rintro _ _ _ ⟨_, _, _, h, _⟩; exact h)))
   rintro _ _ ⟨p2, hl2, rfl, _, rfl⟩
   refine .ap ?_
   refine .ls Tryz.underlying38 info_40 (fun v31 => ?_) (hsz := (by simp [natV, Value.cells]))
   refine .ap Tryz.underlying38 info_40 (fun v32 => ?_) (hone := (by simp [natV, Value.cells]))
   rw [show natCells acc ++ List.flatMap (fun v : Value => v.cells.toList) [natV (ofBytes (rk.out 32))] = natCells (acc ++ [ofBytes (rk.out 32)]) from natCells_snoc _ _, len_snoc acc (ofBytes (rk.out 32))]
   refine .w (.assign rfl) ?_
   refine .nil (.block_normal (.tn (.region ?_)))
   refine .w (.move rfl) (.w (.as (v' := u64 (BitVec.ofNat 64 (k + 1))) (.bin rfl rfl (BinR.add_u64 (b := 1#64))) (congrArg u64 (by apply BitVec.eq_of_toNat_eq; simp))) (.w (.assign rfl) (.nil ?_)))
   refine .hd ((k + 1, acc ++ [ofBytes (rk.out 32)]), rk.aft 32, p2, v32) ?_
   exact ⟨⟨by dsimp only; omega, by simp [hal], ofBytes4 _ _ ha4, hl2, hgn.1, hgn.2⟩, by dsimp only; omega⟩
  ·have hc2' : k < (r.cnt 20).toNat → ¬ rk.e = 0 := by simpa using hc2
   refine .exit (.then_exit (.then_exit (.block_exit (.tn (.seq (.seq (.region ?_)))))))
   refine .w (.move rfl) (.w (.nilCheck rfl) (.w (.fieldAddr fa_159_2 rfl) (.w (.ld one_31 rfl) (.w (.bin rfl rfl BinR.neq_i) ?_))))
   refine .nil (.tn ?_)
   refine .cn rfl (fun hc3 => ?_) (fun hc3 => ?_)
   ·have hO : r.naO 20 = [] := congrArg Prod.fst (hbad hc3)
    have hA : r.naA 20 = rk := congrArg Prod.snd (hbad hc3)
    refine JC.nilRow 40 4 ?_
    refine .seq (.region ?_)
    refine .w (.assign rfl) ?_
    refine .nil (.tn (.ret (.then_ret ?_)))
    exact .dn [] [Res.row (.slice none 0 0) 0 40 4 [], Res.cells p [bv, it (pk : Int), it rk.e] 159] (res1 rfl (.tmp rfl)) ⟨pk, (by rw [hA]; exact hlk), rfl, (by rw [hO, hA]; rfl)⟩
   ·have h0 : rk.e = 0 := hc3
    have hkn : k = (r.cnt 20).toNat := by have := fun h => hc2' h h0; omega
    have hgo2 := hgo h0
    rw [hkn, Nat.sub_self] at hgo2
    have hO : r.naO 20 = acc := congrArg Prod.fst hgo2.symm
    have hA : r.naA 20 = rk := congrArg Prod.snd hgo2.symm
    refine .skip (.tn (.seq (.region ?_)))
    refine .w (.move rfl) (.w (.assign rfl) ?_)
    refine .nil (.tn (.ret ?_))
    exact .dn [] [Res.row vo acc.length 40 4 (natCells acc), Res.cells p [bv, it (pk : Int), it rk.e] 159] (res1 rfl (.tmp rfl)) ⟨pk, (by rw [hA]; exact hlk), rfl, (by rw [hO, hA])⟩
end Go.Proofs.YtmhiapebljfebaaGreatDoor

/- Walks: the bytes of what is decided; a Config. -/
namespace Go.Proofs.YtmhiapebljfebaaGreatDoor
open Go.RowKit
set_option maxRecDepth 100000
set_option linter.unusedVariables false
set_option linter.unusedSimpArgs false
theorem f43_spec (t : TB) (hok : TBok t) (hv1 : t.v.oneCell' = true) :
  Spec Tryz.prog 43 #[(.agg (tbC t).toArray)] [Res.rd t.v t.com.length 4 (natCells t.com)] []
   (fun r Γ' H' => ∃ v, r = .tuple #[v, it (txE t)] ∧ Γ' = [] ∧ H' = [Res.row v (txO t).length 5 1 ((txO t).map u8)]) := by
 refine Spec.of_args Tryz.func43 rfl Tryz.ntmps43 (by simp) fun w => ?_
 obtain ⟨hl1, hl2, hl3⟩ := txB_len t hok.len
 have hcl := hok.len
 have h4 := hok.val
 refine .seq (.region ?_)
 refine .bx fun b1 => ?_
 refine JO.frz (r := Res.cells b1 (tbC t) 42) zq15 ?_
 refine .w (.assign rfl) (.w (.assign rfl) ?_)
 refine .nil (.tn (.seq (.region ?_)))
 refine .al zero_145 fun b4 => ?_
 refine .nil (.tn (.seq (.seq (.region ?_))))
 refine .w (.fieldAddr fa_42_0 rfl) (.w (.ld one_3 rfl) (.w (.fieldAddr fa_42_1 rfl) (.w (.ld one_3 rfl) (.w (.fieldAddr fa_42_2 rfl) (.w (.ld one_3 rfl) (.w (.fieldAddr fa_42_3 rfl) ?_))))))
 refine .w (.ld one_3 rfl) ?_
 refine .l1 Tryz.underlying37 info_3 (fun v15 => ?_)
 refine JO.nilRow 5 1 ?_
 refine .w (.len Tryz.underlying37 rfl) (.w (.move rfl) ?_)
 refine .nil (.tn (.block ?_))
 refine .lp (ι := Nat × Value) (fun x => x.1 ≤ 4 ∧ ∀ i, i < x.1 → ¬ (tF t i < 0 ∨ tF t i > 255)) (fun T x => (17, it (x.1 : Int)) :: T) (fun T _ => T) (fun T x => Res.cells b4 [x.2] 145 :: Res.row x.2 (tS t x.1).length 5 1 ((tS t x.1).map u8) :: T) (fun x => 4 - x.1) (0, .slice none 0 0) [1, 4, 15, 16, 31, 32, 33, 34, 35, 36, 37, 38, 39, 40, 41, 42, 43, 44, 45, 46, 48, 49, 51] ?_ (fun x hx => ?_)
 ·exact ⟨by decide, fun i hi => absurd hi (Nat.not_lt_zero _)⟩
 obtain ⟨k, vw⟩ := x
 obtain ⟨hk, hall⟩ := hx
 dsimp only at hk hall ⊢
 have hsl := tS_len t k
 refine .seq (.region ?_)
 refine .w (.bin rfl rfl BinR.lss_i) ?_
 refine .nil (.tn (.seq ?_))
 refine .cn rfl (fun hc1 => ?_) (fun hc1 => ?_)
 ·skip
  refine .skip (.tn (.seq (.block (.seq (.region ?_)))))
  refine .w (.ix1 Tryz.underlying37 sz_3 rfl rfl) (.w (.as (v' := it (tF t k)) (.ld one_3 rfl (hj := by exact tF_get t (by omega))) rfl) (.w (.assign rfl) ?_))
  refine .nil (.tn (.seq (.seq (.region ?_))))
  refine .w (.move rfl) (.w (.bin rfl rfl BinR.lss_i) (.w (.move rfl) ?_))
  refine .join 3 26 (.bool (decide (tF t k < 0 ∨ tF t k > 255))) ?_ ?_
  ·refine .gn (g := 22) rfl (fun hg23 hg23' => ?_) (fun hg23 hg23' => ?_)
   ·refine .gf (g := 23) rfl rfl hg23 (by decide) ?_
    refine .gf (g := 23) rfl rfl hg23 (by decide) ?_
    refine .w (.pick1 rfl hg23 rfl) (.nil ?_)
    refine .head () zq0 (fun _ h => h) (Picks.perm zq1) ?_
    trivial
   ·refine .gt (g := 23) rfl rfl hg23 ?_
    refine .w (.move rfl) ?_
    refine .gt (g := 23) rfl rfl hg23 ?_
    refine .w (.bin rfl rfl BinR.gtr_i) (.w (.pick0 rfl hg23 rfl) (.nil ?_))
    refine .head () zq0 (fun _ h => h) (Picks.perm zq1) ?_
    trivial
  ·refine .nil (.tn ?_)
   refine .cn rfl (fun hc2 => ?_) (fun hc2 => ?_)
   ·have he : txE t = 1 := txE_1 (i := k) (by omega) hc2
    refine JC.nilRow 5 1 ?_
    refine .seq (.region ?_)
    refine .w (.assign rfl) (.w (.assign rfl) ?_)
    refine .nil (.tn (.ret (.then_ret (.block_ret (.then_ret (.then_ret (.block_ret (.then_ret ?_))))))))
    exact .dn [] [Res.row (.slice none 0 0) 0 5 1 []] (res2 rfl (.tmp rfl) (.tmp rfl)) ⟨.slice none 0 0, by rw [he], rfl, by rw [txO, he]; rfl⟩
   ·skip
    refine .skip (.tn (.region ?_))
    refine .w (.move rfl) (.w (.conv_i_u64 Tryz.underlying3 Tryz.underlying22 rfl) (.cb (f94_spec b4 vw (tS t k) (by omega) (BitVec.ofInt 64 (tF t k))) body_94 ?_ (h0 := by rintro _ _ _ ⟨_, _, h, _⟩; exact h)))
    rintro _ _ ⟨v29, rfl, _, rfl⟩
    refine .ap ?_
    refine .nil (.block_normal (.tn (.region ?_)))
    refine .w (.asI ((k + 1 : Nat) : Int) (.bin rfl rfl (BinR.add_i (by first | (constructor <;> omega) | (constructor <;> simp <;> omega))))) (.w (.move rfl) (.nil ?_))
    refine .hd (k + 1, v29) ?_
    exact ⟨⟨by dsimp only; omega, fun i hi => by rcases Nat.lt_succ_iff_lt_or_eq.1 hi with h | rfl; exact hall i h; exact hc2⟩, by dsimp only; omega⟩
 ·obtain rfl : k = 4 := by omega
  refine .exit (.then_exit (.then_exit (.block_exit (.tn (.seq (.seq (.region ?_)))))))
  refine .w (.fieldAddr fa_42_0 rfl) (.w (.ld one_3 rfl) (.w (.bin rfl rfl BinR.lss_i) (.w (.move rfl) ?_)))
  refine .join 4 38 (.bool (decide (t.kind < 1 ∨ t.kind > 7))) ?_ ?_
  ·refine .gn (g := 33) rfl (fun hg37 hg37' => ?_) (fun hg37 hg37' => ?_)
   ·refine .gf (g := 34) rfl rfl hg37 (by decide) ?_
    refine .gf (g := 34) rfl rfl hg37 (by decide) ?_
    refine .gf (g := 34) rfl rfl hg37 (by decide) ?_
    refine .w (.pick1 rfl hg37 rfl) (.nil ?_)
    refine .head () zq0 (fun _ h => h) (Picks.perm zq1) ?_
    trivial
   ·refine .gt (g := 34) rfl rfl hg37 ?_
    refine .w (.fieldAddr fa_42_0 rfl) ?_
    refine .gt (g := 34) rfl rfl hg37 ?_
    refine .w (.ld one_3 rfl) ?_
    refine .gt (g := 34) rfl rfl hg37 ?_
    refine .w (.bin rfl rfl BinR.gtr_i) (.w (.pick0 rfl hg37 rfl) (.nil ?_))
    refine .head () zq0 (fun _ h => h) (Picks.perm zq1) ?_
    trivial
  ·refine .w (.move rfl) ?_
   refine .join 5 44 (.bool (decide (t.kind < 1 ∨ t.kind > 7 ∨ t.com.length > 20))) ?_ ?_
   ·refine .gn (g := 38) rfl (fun hg42 hg42' => ?_) (fun hg42 hg42' => ?_)
    ·refine .gf (g := 39) rfl rfl hg42 (by decide) ?_
     refine .gf (g := 39) rfl rfl hg42 (by decide) ?_
     refine .gf (g := 39) rfl rfl hg42 (by decide) ?_
     refine .gf (g := 39) rfl rfl hg42 (by decide) ?_
     refine .w (.pick1 rfl hg42 rfl) (.nil ?_)
     refine .head () zq0 (fun _ h => h) (Picks.perm zq1) ?_
     trivial
    ·refine .gt (g := 39) rfl rfl hg42 ?_
     refine .w (.fieldAddr fa_42_4 rfl) ?_
     refine .gt (g := 39) rfl rfl hg42 ?_
     refine .w (.ld one_38 rfl) ?_
     refine .gt (g := 39) rfl rfl hg42 ?_
     refine .w (.len Tryz.underlying38 rfl) ?_
     refine .gt (g := 39) rfl rfl hg42 ?_
     refine .w (.bin rfl rfl BinR.gtr_i) (.w (.pick0 rfl hg42 rfl) (.nil ?_))
     refine .head () zq0 (fun _ h => h) (Picks.perm zq1) ?_
     trivial
   ·refine .nil (.tn ?_)
    refine .cn rfl (fun hc3 => ?_) (fun hc3 => ?_)
    ·have he : txE t = 1 := by unfold txE; rw [if_pos (by omega)]
     refine JC.nilRow 5 1 ?_
     refine .seq (.region ?_)
     refine .w (.assign rfl) (.w (.assign rfl) ?_)
     refine .nil (.tn (.ret (.then_ret ?_)))
     exact .dn [] [Res.row (.slice none 0 0) 0 5 1 []] (res2 rfl (.tmp rfl) (.tmp rfl)) ⟨.slice none 0 0, by rw [he], rfl, by rw [txO, he]; rfl⟩
    ·have he : txE t = 0 := txE_k hall hc3
     refine .skip (.tn (.seq (.region ?_)))
     refine .w (.fieldAddr fa_42_4 rfl) (.w (.ld one_38 rfl) (.cb (f95_spec b4 vw (tS t 4) (by omega) t.v t.com hok.com hok.len) body_95 ?_ (h0 := by rintro _ _ _ ⟨_, _, h, _⟩; exact h)))
     rintro _ _ ⟨v47, rfl, _, rfl⟩
     refine .ap ?_
     refine .nil (.tn (.seq (.region ?_)))
     refine .w (.fieldAddr fa_42_5 rfl) (.w (.as (v' := .agg ((t.val).map u64).toArray) (.lda agg_40 rfl) (congrArg (fun l : List Value => Value.agg l.toArray) (tb_val hok.val))) (.cb (f96_spec b4 v47 (tS t 4 ++ natsB t.com) (by omega) t.val hok.val) body_96 ?_ (h0 := by rintro _ _ _ ⟨_, _, h, _⟩; exact h)))
     rintro _ _ ⟨v50, rfl, _, rfl⟩
     refine .ap ?_
     refine .nil (.tn (.seq (.region ?_)))
     refine .cb (f97_spec b4 v50 (txB t) (by omega)) body_97 ?_
     rintro v51 _ ⟨_, _, rfl⟩
     refine .ap ?_
     refine .w (.assign rfl) (.w (.assign rfl) ?_)
     refine .nil (.tn (.ret ?_))
     exact .dn [] [Res.row v51 (txB t).length 5 1 ((txB t).map u8)] (res2 rfl (.tmp rfl) (.tmp rfl)) ⟨v51, by rw [he], rfl, by rw [txO, he]; rfl⟩

theorem f44_spec (t : TB) (hok : TBok t) (hv1 : t.v.oneCell' = true) :
  Spec Tryz.prog 44 #[(.agg (tbC t).toArray)] [Res.rd t.v t.com.length 4 (natCells t.com)] []
   (fun r Γ' H' => ∃ v, r = .tuple #[v, it (txE t)] ∧ Γ' = [] ∧ H' = [Res.row v (txO t).length 5 1 ((txO t).map u8)]) := by
 refine Spec.of_args Tryz.func44 rfl Tryz.ntmps44 (by simp) fun w => ?_
 obtain ⟨hl1, hl2, hl3⟩ := txB_len t hok.len
 have hcl := hok.len
 have h4 := hok.val
 have hS := tS_len t 1
 have hS2 := tS_len t 2
 have hS3 := tS_len t 3
 have hnl := natsB_len t.com
 refine .seq (.region ?_)
 refine .bx fun b1 => ?_
 refine JO.frz (r := Res.cells b1 (tbC t) 42) zq15 ?_
 refine .w (.assign rfl) (.w (.assign rfl) ?_)
 refine .nil (.tn (.seq (.seq (.region ?_))))
 refine .w (.fieldAddr fa_42_0 rfl) (.w (.ld one_3 rfl) (.w (.bin rfl rfl BinR.lss_i) (.w (.move rfl) ?_)))
 refine .join 4 12 (.bool (decide (t.kind < 1 ∨ t.kind > 7))) ?_ ?_
 ·refine .gn (g := 7) rfl (fun hg8 hg8' => ?_) (fun hg8 hg8' => ?_)
  ·refine .gf (g := 8) rfl rfl hg8 (by decide) ?_
   refine .gf (g := 8) rfl rfl hg8 (by decide) ?_
   refine .gf (g := 8) rfl rfl hg8 (by decide) ?_
   refine .w (.pick1 rfl hg8 rfl) (.nil ?_)
   refine .head () zq0 (fun _ h => h) (Picks.perm zq1) ?_
   trivial
  ·refine .gt (g := 8) rfl rfl hg8 ?_
   refine .w (.fieldAddr fa_42_0 rfl) ?_
   refine .gt (g := 8) rfl rfl hg8 ?_
   refine .w (.ld one_3 rfl) ?_
   refine .gt (g := 8) rfl rfl hg8 ?_
   refine .w (.bin rfl rfl BinR.gtr_i) (.w (.pick0 rfl hg8 rfl) (.nil ?_))
   refine .head () zq0 (fun _ h => h) (Picks.perm zq1) ?_
   trivial
 ·refine .w (.move rfl) ?_
  refine .join 4 17 (.bool (decide (t.kind < 1 ∨ t.kind > 7 ∨ t.frm < 0))) ?_ ?_
  ·refine .gn (g := 12) rfl (fun hg13 hg13' => ?_) (fun hg13 hg13' => ?_)
   ·refine .gf (g := 13) rfl rfl hg13 (by decide) ?_
    refine .gf (g := 13) rfl rfl hg13 (by decide) ?_
    refine .gf (g := 13) rfl rfl hg13 (by decide) ?_
    refine .w (.pick1 rfl hg13 rfl) (.nil ?_)
    refine .head () zq0 (fun _ h => h) (Picks.perm zq1) ?_
    trivial
   ·refine .gt (g := 13) rfl rfl hg13 ?_
    refine .w (.fieldAddr fa_42_1 rfl) ?_
    refine .gt (g := 13) rfl rfl hg13 ?_
    refine .w (.ld one_3 rfl) ?_
    refine .gt (g := 13) rfl rfl hg13 ?_
    refine .w (.bin rfl rfl BinR.lss_i) (.w (.pick0 rfl hg13 rfl) (.nil ?_))
    refine .head () zq0 (fun _ h => h) (Picks.perm zq1) ?_
    trivial
  ·refine .w (.move rfl) ?_
   refine .join 4 22 (.bool (decide (t.kind < 1 ∨ t.kind > 7 ∨ t.frm < 0 ∨ t.frm > 255))) ?_ ?_
   ·refine .gn (g := 17) rfl (fun hg18 hg18' => ?_) (fun hg18 hg18' => ?_)
    ·refine .gf (g := 18) rfl rfl hg18 (by decide) ?_
     refine .gf (g := 18) rfl rfl hg18 (by decide) ?_
     refine .gf (g := 18) rfl rfl hg18 (by decide) ?_
     refine .w (.pick1 rfl hg18 rfl) (.nil ?_)
     refine .head () zq0 (fun _ h => h) (Picks.perm zq1) ?_
     trivial
    ·refine .gt (g := 18) rfl rfl hg18 ?_
     refine .w (.fieldAddr fa_42_1 rfl) ?_
     refine .gt (g := 18) rfl rfl hg18 ?_
     refine .w (.ld one_3 rfl) ?_
     refine .gt (g := 18) rfl rfl hg18 ?_
     refine .w (.bin rfl rfl BinR.gtr_i) (.w (.pick0 rfl hg18 rfl) (.nil ?_))
     refine .head () zq0 (fun _ h => h) (Picks.perm zq1) ?_
     trivial
   ·refine .w (.move rfl) ?_
    refine .join 4 27 (.bool (decide (t.kind < 1 ∨ t.kind > 7 ∨ t.frm < 0 ∨ t.frm > 255 ∨ t.dealer < 0))) ?_ ?_
    ·refine .gn (g := 22) rfl (fun hg23 hg23' => ?_) (fun hg23 hg23' => ?_)
     ·refine .gf (g := 23) rfl rfl hg23 (by decide) ?_
      refine .gf (g := 23) rfl rfl hg23 (by decide) ?_
      refine .gf (g := 23) rfl rfl hg23 (by decide) ?_
      refine .w (.pick1 rfl hg23 rfl) (.nil ?_)
      refine .head () zq0 (fun _ h => h) (Picks.perm zq1) ?_
      trivial
     ·refine .gt (g := 23) rfl rfl hg23 ?_
      refine .w (.fieldAddr fa_42_2 rfl) ?_
      refine .gt (g := 23) rfl rfl hg23 ?_
      refine .w (.ld one_3 rfl) ?_
      refine .gt (g := 23) rfl rfl hg23 ?_
      refine .w (.bin rfl rfl BinR.lss_i) (.w (.pick0 rfl hg23 rfl) (.nil ?_))
      refine .head () zq0 (fun _ h => h) (Picks.perm zq1) ?_
      trivial
    ·refine .w (.move rfl) ?_
     refine .join 4 32 (.bool (decide (t.kind < 1 ∨ t.kind > 7 ∨ t.frm < 0 ∨ t.frm > 255 ∨ t.dealer < 0 ∨ t.dealer > 255))) ?_ ?_
     ·refine .gn (g := 27) rfl (fun hg28 hg28' => ?_) (fun hg28 hg28' => ?_)
      ·refine .gf (g := 28) rfl rfl hg28 (by decide) ?_
       refine .gf (g := 28) rfl rfl hg28 (by decide) ?_
       refine .gf (g := 28) rfl rfl hg28 (by decide) ?_
       refine .w (.pick1 rfl hg28 rfl) (.nil ?_)
       refine .head () zq0 (fun _ h => h) (Picks.perm zq1) ?_
       trivial
      ·refine .gt (g := 28) rfl rfl hg28 ?_
       refine .w (.fieldAddr fa_42_2 rfl) ?_
       refine .gt (g := 28) rfl rfl hg28 ?_
       refine .w (.ld one_3 rfl) ?_
       refine .gt (g := 28) rfl rfl hg28 ?_
       refine .w (.bin rfl rfl BinR.gtr_i) (.w (.pick0 rfl hg28 rfl) (.nil ?_))
       refine .head () zq0 (fun _ h => h) (Picks.perm zq1) ?_
       trivial
     ·refine .w (.move rfl) ?_
      refine .join 4 37 (.bool (decide (t.kind < 1 ∨ t.kind > 7 ∨ t.frm < 0 ∨ t.frm > 255 ∨ t.dealer < 0 ∨ t.dealer > 255 ∨ t.slot < 0))) ?_ ?_
      ·refine .gn (g := 32) rfl (fun hg33 hg33' => ?_) (fun hg33 hg33' => ?_)
       ·refine .gf (g := 33) rfl rfl hg33 (by decide) ?_
        refine .gf (g := 33) rfl rfl hg33 (by decide) ?_
        refine .gf (g := 33) rfl rfl hg33 (by decide) ?_
        refine .w (.pick1 rfl hg33 rfl) (.nil ?_)
        refine .head () zq0 (fun _ h => h) (Picks.perm zq1) ?_
        trivial
       ·refine .gt (g := 33) rfl rfl hg33 ?_
        refine .w (.fieldAddr fa_42_3 rfl) ?_
        refine .gt (g := 33) rfl rfl hg33 ?_
        refine .w (.ld one_3 rfl) ?_
        refine .gt (g := 33) rfl rfl hg33 ?_
        refine .w (.bin rfl rfl BinR.lss_i) (.w (.pick0 rfl hg33 rfl) (.nil ?_))
        refine .head () zq0 (fun _ h => h) (Picks.perm zq1) ?_
        trivial
      ·refine .w (.move rfl) ?_
       refine .join 4 42 (.bool (decide (t.kind < 1 ∨ t.kind > 7 ∨ t.frm < 0 ∨ t.frm > 255 ∨ t.dealer < 0 ∨ t.dealer > 255 ∨ t.slot < 0 ∨ t.slot > 255))) ?_ ?_
       ·refine .gn (g := 37) rfl (fun hg38 hg38' => ?_) (fun hg38 hg38' => ?_)
        ·refine .gf (g := 38) rfl rfl hg38 (by decide) ?_
         refine .gf (g := 38) rfl rfl hg38 (by decide) ?_
         refine .gf (g := 38) rfl rfl hg38 (by decide) ?_
         refine .w (.pick1 rfl hg38 rfl) (.nil ?_)
         refine .head () zq0 (fun _ h => h) (Picks.perm zq1) ?_
         trivial
        ·refine .gt (g := 38) rfl rfl hg38 ?_
         refine .w (.fieldAddr fa_42_3 rfl) ?_
         refine .gt (g := 38) rfl rfl hg38 ?_
         refine .w (.ld one_3 rfl) ?_
         refine .gt (g := 38) rfl rfl hg38 ?_
         refine .w (.bin rfl rfl BinR.gtr_i) (.w (.pick0 rfl hg38 rfl) (.nil ?_))
         refine .head () zq0 (fun _ h => h) (Picks.perm zq1) ?_
         trivial
       ·refine .w (.move rfl) ?_
        refine .join 5 48 (.bool (decide (t.kind < 1 ∨ t.kind > 7 ∨ t.frm < 0 ∨ t.frm > 255 ∨ t.dealer < 0 ∨ t.dealer > 255 ∨ t.slot < 0 ∨ t.slot > 255 ∨ t.com.length > 20))) ?_ ?_
        ·refine .gn (g := 42) rfl (fun hg43 hg43' => ?_) (fun hg43 hg43' => ?_)
         ·refine .gf (g := 43) rfl rfl hg43 (by decide) ?_
          refine .gf (g := 43) rfl rfl hg43 (by decide) ?_
          refine .gf (g := 43) rfl rfl hg43 (by decide) ?_
          refine .gf (g := 43) rfl rfl hg43 (by decide) ?_
          refine .w (.pick1 rfl hg43 rfl) (.nil ?_)
          refine .head () zq0 (fun _ h => h) (Picks.perm zq1) ?_
          trivial
         ·refine .gt (g := 43) rfl rfl hg43 ?_
          refine .w (.fieldAddr fa_42_4 rfl) ?_
          refine .gt (g := 43) rfl rfl hg43 ?_
          refine .w (.ld one_38 rfl) ?_
          refine .gt (g := 43) rfl rfl hg43 ?_
          refine .w (.len Tryz.underlying38 rfl) ?_
          refine .gt (g := 43) rfl rfl hg43 ?_
          refine .w (.bin rfl rfl BinR.gtr_i) (.w (.pick0 rfl hg43 rfl) (.nil ?_))
          refine .head () zq0 (fun _ h => h) (Picks.perm zq1) ?_
          trivial
        ·refine .nil (.tn ?_)
         refine .cn rfl (fun hc1 => ?_) (fun hc1 => ?_)
         ·have he : txE t = 1 := by unfold txE; rw [if_pos (by omega)]
          refine JC.nilRow 5 1 ?_
          refine .seq (.region ?_)
          refine .w (.assign rfl) (.w (.assign rfl) ?_)
          refine .nil (.tn (.ret (.then_ret ?_)))
          exact .dn [] [Res.row (.slice none 0 0) 0 5 1 []] (res2 rfl (.tmp rfl) (.tmp rfl)) ⟨.slice none 0 0, by rw [he], rfl, by rw [txO, he]; rfl⟩
         ·have he : txE t = 0 := by unfold txE; rw [if_neg (by omega)]
          refine .skip (.tn (.seq (.region ?_)))
          refine .w (.fieldAddr fa_42_0 rfl) (.w (.as (v' := it (tF t 0)) (.ld one_3 rfl) rfl) (.w (.conv_i_u64 Tryz.underlying3 Tryz.underlying22 rfl) (.cb (f98_spec (BitVec.ofInt 64 (tF t 0))) body_98 ?_)))
          rintro v52 _ ⟨_, _, rfl⟩
          refine .ap ?_
          have hs0 := smallB_le (BitVec.ofInt 64 (tF t 0))
          have hz1 : (smallB (BitVec.ofInt 64 (tF t 0))).length = (tS t 1).length := by simp [tS]
          refine .w (.assign rfl) ?_
          refine .nil (.tn (.seq (.region ?_)))
          refine .w (.move rfl) (.w (.fieldAddr fa_42_1 rfl) (.w (.as (v' := it (tF t 1)) (.ld one_3 rfl) rfl) (.w (.conv_i_u64 Tryz.underlying3 Tryz.underlying22 rfl) (.cb (f98_spec (BitVec.ofInt 64 (tF t 1))) body_98 ?_))))
          rintro v57 _ ⟨_, _, rfl⟩
          refine .ap ?_
          have hs1 := smallB_le (BitVec.ofInt 64 (tF t 1))
          refine .ap Tryz.underlying79 info_5 (fun v58 => ?_) (hone := one_u8s) (hnm := (by (try simp only [List.length_append]); unfold maxLen; omega)) (hb := (by (try simp only [List.length_append]); omega))
          rw [map_cat, len_cat]
          refine .w (.assign rfl) ?_
          refine .nil (.tn (.seq (.region ?_)))
          refine .w (.move rfl) (.w (.fieldAddr fa_42_2 rfl) (.w (.as (v' := it (tF t 2)) (.ld one_3 rfl) rfl) (.w (.conv_i_u64 Tryz.underlying3 Tryz.underlying22 rfl) (.cb (f98_spec (BitVec.ofInt 64 (tF t 2))) body_98 ?_))))
          rintro v63 _ ⟨_, _, rfl⟩
          refine .ap ?_
          have hs2 := smallB_le (BitVec.ofInt 64 (tF t 2))
          refine .ap Tryz.underlying79 info_5 (fun v64 => ?_) (hone := one_u8s) (hnm := (by (try simp only [List.length_append]); unfold maxLen; omega)) (hb := (by (try simp only [List.length_append]); omega))
          rw [map_cat, len_cat]
          refine .w (.assign rfl) ?_
          refine .nil (.tn (.seq (.region ?_)))
          refine .w (.move rfl) (.w (.fieldAddr fa_42_3 rfl) (.w (.as (v' := it (tF t 3)) (.ld one_3 rfl) rfl) (.w (.conv_i_u64 Tryz.underlying3 Tryz.underlying22 rfl) (.cb (f98_spec (BitVec.ofInt 64 (tF t 3))) body_98 ?_))))
          rintro v69 _ ⟨_, _, rfl⟩
          refine .ap ?_
          have hs3 := smallB_le (BitVec.ofInt 64 (tF t 3))
          refine .ap Tryz.underlying79 info_5 (fun v70 => ?_) (hone := one_u8s) (hnm := (by (try simp only [List.length_append]); unfold maxLen; omega)) (hb := (by (try simp only [List.length_append]); omega))
          rw [map_cat, len_cat]
          refine .w (.assign rfl) ?_
          refine .nil (.tn (.seq (.region ?_)))
          refine .w (.move rfl) (.w (.fieldAddr fa_42_4 rfl) (.w (.ld one_38 rfl) (.cb (f99_spec t.v t.com hok.com hok.len) body_99 ?_)))
          rintro v74 _ ⟨_, _, rfl⟩
          refine .ap ?_
          refine .ap Tryz.underlying79 info_5 (fun v75 => ?_) (hone := one_u8s) (hnm := (by (try simp only [List.length_append]); unfold maxLen; omega)) (hb := (by (try simp only [List.length_append]); omega))
          rw [map_cat, len_cat]
          refine .w (.assign rfl) ?_
          refine .nil (.tn (.seq (.region ?_)))
          refine .w (.move rfl) (.w (.fieldAddr fa_42_5 rfl) (.w (.as (v' := .agg ((t.val).map u64).toArray) (.lda agg_40 rfl) (congrArg (fun l : List Value => Value.agg l.toArray) (tb_val hok.val))) (.cb (f81_spec t.val hok.val) body_81 ?_)))
          rintro v79 _ ⟨_, _, rfl⟩
          refine .ap ?_
          have hn32 : (natBytes t.val).length = 32 := natBytes_length _
          refine .ap Tryz.underlying79 info_5 (fun v80 => ?_) (hone := one_u8s) (hnm := (by (try simp only [List.length_append]); unfold maxLen; omega)) (hb := (by (try simp only [List.length_append]); omega))
          rw [map_cat, len_cat]
          refine .w (.assign rfl) (.w (.assign rfl) ?_)
          refine .nil (.tn (.ret ?_))
          exact .dn [] [Res.row v80 (smallB (BitVec.ofInt 64 (tF t 0)) ++ smallB (BitVec.ofInt 64 (tF t 1)) ++ smallB (BitVec.ofInt 64 (tF t 2)) ++ smallB (BitVec.ofInt 64 (tF t 3)) ++ natsB t.com ++ natBytes t.val).length 5 1 ((smallB (BitVec.ofInt 64 (tF t 0)) ++ smallB (BitVec.ofInt 64 (tF t 1)) ++ smallB (BitVec.ofInt 64 (tF t 2)) ++ smallB (BitVec.ofInt 64 (tF t 3)) ++ natsB t.com ++ natBytes t.val).map u8)] (res2 rfl (.tmp rfl) (.tmp rfl)) ⟨v80, by rw [he], rfl, by rw [txO, he, if_pos rfl, txB_ref]⟩

theorem f50_spec (c : Cfg) :
  Spec Tryz.prog 50 #[(.agg (cfgC c).toArray)] [] []
   (fun r Γ' H' => r = (it (checkE c)) ∧ Γ' = [] ∧ H' = []) := by
 refine Spec.of_args Tryz.func50 rfl Tryz.ntmps50 (by simp) fun w => ?_
 refine .seq (.region ?_)
 refine .bx fun b1 => ?_
 refine .w (.assign rfl) ?_
 refine .nil (.tn (.seq (.seq (.region ?_))))
 refine .w (.fieldAddr fa_24_0 rfl) (.w (.ld one_3 rfl) (.w (.bin rfl rfl BinR.lss_i) (.w (.move rfl) ?_)))
 refine .join 4 10 (.bool (decide (c.T < 0 ∨ c.T > 10))) ?_ ?_
 ·refine .gn (g := 5) rfl (fun hg7 hg7' => ?_) (fun hg7 hg7' => ?_)
  ·refine .gf (g := 6) rfl rfl hg7 (by decide) ?_
   refine .gf (g := 6) rfl rfl hg7 (by decide) ?_
   refine .gf (g := 6) rfl rfl hg7 (by decide) ?_
   refine .w (.pick1 rfl hg7 rfl) (.nil ?_)
   refine .head () zq0 (fun _ h => h) (Picks.perm zq1) ?_
   trivial
  ·refine .gt (g := 6) rfl rfl hg7 ?_
   refine .w (.fieldAddr fa_24_0 rfl) ?_
   refine .gt (g := 6) rfl rfl hg7 ?_
   refine .w (.ld one_3 rfl) ?_
   refine .gt (g := 6) rfl rfl hg7 ?_
   refine .w (.bin rfl rfl BinR.gtr_i) (.w (.pick0 rfl hg7 rfl) (.nil ?_))
   refine .head () zq0 (fun _ h => h) (Picks.perm zq1) ?_
   trivial
 ·refine .w (.move rfl) ?_
  refine .join 6 17 (.bool (decide (c.T < 0 ∨ c.T > 10 ∨ c.Slots ≤ c.T))) ?_ ?_
  ·refine .gn (g := 10) rfl (fun hg12 hg12' => ?_) (fun hg12 hg12' => ?_)
   ·refine .gf (g := 11) rfl rfl hg12 (by decide) ?_
    refine .gf (g := 11) rfl rfl hg12 (by decide) ?_
    refine .gf (g := 11) rfl rfl hg12 (by decide) ?_
    refine .gf (g := 11) rfl rfl hg12 (by decide) ?_
    refine .gf (g := 11) rfl rfl hg12 (by decide) ?_
    refine .w (.pick1 rfl hg12 rfl) (.nil ?_)
    refine .head () zq0 (fun _ h => h) (Picks.perm zq1) ?_
    trivial
   ·refine .gt (g := 11) rfl rfl hg12 ?_
    refine .w (.fieldAddr fa_24_1 rfl) ?_
    refine .gt (g := 11) rfl rfl hg12 ?_
    refine .w (.ld one_3 rfl) ?_
    refine .gt (g := 11) rfl rfl hg12 ?_
    refine .w (.fieldAddr fa_24_0 rfl) ?_
    refine .gt (g := 11) rfl rfl hg12 ?_
    refine .w (.ld one_3 rfl) ?_
    refine .gt (g := 11) rfl rfl hg12 ?_
    refine .w (.bin rfl rfl BinR.leq_i) (.w (.pick0 rfl hg12 rfl) (.nil ?_))
    refine .head () zq0 (fun _ h => h) (Picks.perm zq1) ?_
    trivial
  ·refine .w (.move rfl) ?_
   refine .join 4 22 (.bool (decide (c.T < 0 ∨ c.T > 10 ∨ c.Slots ≤ c.T ∨ c.Slots > 40))) ?_ ?_
   ·refine .gn (g := 17) rfl (fun hg19 hg19' => ?_) (fun hg19 hg19' => ?_)
    ·refine .gf (g := 18) rfl rfl hg19 (by decide) ?_
     refine .gf (g := 18) rfl rfl hg19 (by decide) ?_
     refine .gf (g := 18) rfl rfl hg19 (by decide) ?_
     refine .w (.pick1 rfl hg19 rfl) (.nil ?_)
     refine .head () zq0 (fun _ h => h) (Picks.perm zq1) ?_
     trivial
    ·refine .gt (g := 18) rfl rfl hg19 ?_
     refine .w (.fieldAddr fa_24_1 rfl) ?_
     refine .gt (g := 18) rfl rfl hg19 ?_
     refine .w (.ld one_3 rfl) ?_
     refine .gt (g := 18) rfl rfl hg19 ?_
     refine .w (.bin rfl rfl BinR.gtr_i) (.w (.pick0 rfl hg19 rfl) (.nil ?_))
     refine .head () zq0 (fun _ h => h) (Picks.perm zq1) ?_
     trivial
   ·refine .nil (.tn ?_)
    refine .cn rfl (fun hc1 => ?_) (fun hc1 => ?_)
    ·refine .seq (.region ?_)
     refine .w (.assign rfl) ?_
     refine .nil (.tn (.ret (.then_ret ?_)))
     exact .dn [] [] (res1 rfl (.tmp rfl)) ⟨congrArg it (if_pos hc1).symm, rfl, rfl⟩
    ·refine .skip (.tn (.seq (.seq (.region ?_))))
     refine .w (.fieldAddr fa_24_2 rfl) (.w (.ld one_3 rfl) (.w (.bin rfl rfl BinR.lss_i) (.w (.move rfl) ?_)))
     refine .join 4 30 (.bool (decide (c.Deal < 1 ∨ c.Deal > 50))) ?_ ?_
     ·refine .gn (g := 25) rfl (fun hg28 hg28' => ?_) (fun hg28 hg28' => ?_)
      ·refine .gf (g := 26) rfl rfl hg28 (by decide) ?_
       refine .gf (g := 26) rfl rfl hg28 (by decide) ?_
       refine .gf (g := 26) rfl rfl hg28 (by decide) ?_
       refine .w (.pick1 rfl hg28 rfl) (.nil ?_)
       refine .head () zq0 (fun _ h => h) (Picks.perm zq1) ?_
       trivial
      ·refine .gt (g := 26) rfl rfl hg28 ?_
       refine .w (.fieldAddr fa_24_2 rfl) ?_
       refine .gt (g := 26) rfl rfl hg28 ?_
       refine .w (.ld one_3 rfl) ?_
       refine .gt (g := 26) rfl rfl hg28 ?_
       refine .w (.bin rfl rfl BinR.gtr_i) (.w (.pick0 rfl hg28 rfl) (.nil ?_))
       refine .head () zq0 (fun _ h => h) (Picks.perm zq1) ?_
       trivial
     ·refine .w (.move rfl) ?_
      refine .join 4 35 (.bool (decide (c.Deal < 1 ∨ c.Deal > 50 ∨ c.Ack < 1))) ?_ ?_
      ·refine .gn (g := 30) rfl (fun hg33 hg33' => ?_) (fun hg33 hg33' => ?_)
       ·refine .gf (g := 31) rfl rfl hg33 (by decide) ?_
        refine .gf (g := 31) rfl rfl hg33 (by decide) ?_
        refine .gf (g := 31) rfl rfl hg33 (by decide) ?_
        refine .w (.pick1 rfl hg33 rfl) (.nil ?_)
        refine .head () zq0 (fun _ h => h) (Picks.perm zq1) ?_
        trivial
       ·refine .gt (g := 31) rfl rfl hg33 ?_
        refine .w (.fieldAddr fa_24_3 rfl) ?_
        refine .gt (g := 31) rfl rfl hg33 ?_
        refine .w (.ld one_3 rfl) ?_
        refine .gt (g := 31) rfl rfl hg33 ?_
        refine .w (.bin rfl rfl BinR.lss_i) (.w (.pick0 rfl hg33 rfl) (.nil ?_))
        refine .head () zq0 (fun _ h => h) (Picks.perm zq1) ?_
        trivial
      ·refine .w (.move rfl) ?_
       refine .join 4 40 (.bool (decide (c.Deal < 1 ∨ c.Deal > 50 ∨ c.Ack < 1 ∨ c.Ack > 50))) ?_ ?_
       ·refine .gn (g := 35) rfl (fun hg38 hg38' => ?_) (fun hg38 hg38' => ?_)
        ·refine .gf (g := 36) rfl rfl hg38 (by decide) ?_
         refine .gf (g := 36) rfl rfl hg38 (by decide) ?_
         refine .gf (g := 36) rfl rfl hg38 (by decide) ?_
         refine .w (.pick1 rfl hg38 rfl) (.nil ?_)
         refine .head () zq0 (fun _ h => h) (Picks.perm zq1) ?_
         trivial
        ·refine .gt (g := 36) rfl rfl hg38 ?_
         refine .w (.fieldAddr fa_24_3 rfl) ?_
         refine .gt (g := 36) rfl rfl hg38 ?_
         refine .w (.ld one_3 rfl) ?_
         refine .gt (g := 36) rfl rfl hg38 ?_
         refine .w (.bin rfl rfl BinR.gtr_i) (.w (.pick0 rfl hg38 rfl) (.nil ?_))
         refine .head () zq0 (fun _ h => h) (Picks.perm zq1) ?_
         trivial
       ·refine .w (.move rfl) ?_
        refine .join 4 45 (.bool (decide (c.Deal < 1 ∨ c.Deal > 50 ∨ c.Ack < 1 ∨ c.Ack > 50 ∨ c.Open < 1))) ?_ ?_
        ·refine .gn (g := 40) rfl (fun hg43 hg43' => ?_) (fun hg43 hg43' => ?_)
         ·refine .gf (g := 41) rfl rfl hg43 (by decide) ?_
          refine .gf (g := 41) rfl rfl hg43 (by decide) ?_
          refine .gf (g := 41) rfl rfl hg43 (by decide) ?_
          refine .w (.pick1 rfl hg43 rfl) (.nil ?_)
          refine .head () zq0 (fun _ h => h) (Picks.perm zq1) ?_
          trivial
         ·refine .gt (g := 41) rfl rfl hg43 ?_
          refine .w (.fieldAddr fa_24_4 rfl) ?_
          refine .gt (g := 41) rfl rfl hg43 ?_
          refine .w (.ld one_3 rfl) ?_
          refine .gt (g := 41) rfl rfl hg43 ?_
          refine .w (.bin rfl rfl BinR.lss_i) (.w (.pick0 rfl hg43 rfl) (.nil ?_))
          refine .head () zq0 (fun _ h => h) (Picks.perm zq1) ?_
          trivial
        ·refine .w (.move rfl) ?_
         refine .join 4 50 (.bool (decide (c.Deal < 1 ∨ c.Deal > 50 ∨ c.Ack < 1 ∨ c.Ack > 50 ∨ c.Open < 1 ∨ c.Open > 50))) ?_ ?_
         ·refine .gn (g := 45) rfl (fun hg48 hg48' => ?_) (fun hg48 hg48' => ?_)
          ·refine .gf (g := 46) rfl rfl hg48 (by decide) ?_
           refine .gf (g := 46) rfl rfl hg48 (by decide) ?_
           refine .gf (g := 46) rfl rfl hg48 (by decide) ?_
           refine .w (.pick1 rfl hg48 rfl) (.nil ?_)
           refine .head () zq0 (fun _ h => h) (Picks.perm zq1) ?_
           trivial
          ·refine .gt (g := 46) rfl rfl hg48 ?_
           refine .w (.fieldAddr fa_24_4 rfl) ?_
           refine .gt (g := 46) rfl rfl hg48 ?_
           refine .w (.ld one_3 rfl) ?_
           refine .gt (g := 46) rfl rfl hg48 ?_
           refine .w (.bin rfl rfl BinR.gtr_i) (.w (.pick0 rfl hg48 rfl) (.nil ?_))
           refine .head () zq0 (fun _ h => h) (Picks.perm zq1) ?_
           trivial
         ·refine .w (.move rfl) ?_
          refine .join 4 55 (.bool (decide (c.Deal < 1 ∨ c.Deal > 50 ∨ c.Ack < 1 ∨ c.Ack > 50 ∨ c.Open < 1 ∨ c.Open > 50 ∨ c.Reveal < 1))) ?_ ?_
          ·refine .gn (g := 50) rfl (fun hg53 hg53' => ?_) (fun hg53 hg53' => ?_)
           ·refine .gf (g := 51) rfl rfl hg53 (by decide) ?_
            refine .gf (g := 51) rfl rfl hg53 (by decide) ?_
            refine .gf (g := 51) rfl rfl hg53 (by decide) ?_
            refine .w (.pick1 rfl hg53 rfl) (.nil ?_)
            refine .head () zq0 (fun _ h => h) (Picks.perm zq1) ?_
            trivial
           ·refine .gt (g := 51) rfl rfl hg53 ?_
            refine .w (.fieldAddr fa_24_5 rfl) ?_
            refine .gt (g := 51) rfl rfl hg53 ?_
            refine .w (.ld one_3 rfl) ?_
            refine .gt (g := 51) rfl rfl hg53 ?_
            refine .w (.bin rfl rfl BinR.lss_i) (.w (.pick0 rfl hg53 rfl) (.nil ?_))
            refine .head () zq0 (fun _ h => h) (Picks.perm zq1) ?_
            trivial
          ·refine .w (.move rfl) ?_
           refine .join 4 60 (.bool (decide (c.Deal < 1 ∨ c.Deal > 50 ∨ c.Ack < 1 ∨ c.Ack > 50 ∨ c.Open < 1 ∨ c.Open > 50 ∨ c.Reveal < 1 ∨ c.Reveal > 50))) ?_ ?_
           ·refine .gn (g := 55) rfl (fun hg58 hg58' => ?_) (fun hg58 hg58' => ?_)
            ·refine .gf (g := 56) rfl rfl hg58 (by decide) ?_
             refine .gf (g := 56) rfl rfl hg58 (by decide) ?_
             refine .gf (g := 56) rfl rfl hg58 (by decide) ?_
             refine .w (.pick1 rfl hg58 rfl) (.nil ?_)
             refine .head () zq0 (fun _ h => h) (Picks.perm zq1) ?_
             trivial
            ·refine .gt (g := 56) rfl rfl hg58 ?_
             refine .w (.fieldAddr fa_24_5 rfl) ?_
             refine .gt (g := 56) rfl rfl hg58 ?_
             refine .w (.ld one_3 rfl) ?_
             refine .gt (g := 56) rfl rfl hg58 ?_
             refine .w (.bin rfl rfl BinR.gtr_i) (.w (.pick0 rfl hg58 rfl) (.nil ?_))
             refine .head () zq0 (fun _ h => h) (Picks.perm zq1) ?_
             trivial
           ·refine .nil (.tn ?_)
            refine .cn rfl (fun hc2 => ?_) (fun hc2 => ?_)
            ·refine .seq (.region ?_)
             refine .w (.assign rfl) ?_
             refine .nil (.tn (.ret (.then_ret ?_)))
             exact .dn [] [] (res1 rfl (.tmp rfl)) ⟨congrArg it (by rw [checkE, if_neg hc1, win_ref, if_neg (by omega)]), rfl, rfl⟩
            ·refine .skip (.tn (.seq (.region ?_)))
             refine .w (.assign rfl) ?_
             refine .nil (.tn (.ret ?_))
             exact .dn [] [] (res1 rfl (.tmp rfl)) ⟨congrArg it (by rw [checkE, if_neg hc1, win_ref, if_pos (by omega)]), rfl, rfl⟩
end Go.Proofs.YtmhiapebljfebaaGreatDoor
