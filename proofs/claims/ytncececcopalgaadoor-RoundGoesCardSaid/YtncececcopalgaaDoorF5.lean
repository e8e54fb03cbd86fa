/- Walks: what a state is. -/
import Derived.Test.YtncececcopalgaaDoorF4
import Derived.Test.YtncececcopalgaaDoorW16
import Derived.Test.YtncececcopalgaaDoorK4
namespace Go.Proofs.YtncececcopalgaaDoor
open Go.RowKit
set_option maxRecDepth 100000
set_option linter.unusedVariables false
set_option linter.unusedSimpArgs false
theorem f29_spec (n : Int) :
    Spec Tryd.prog 29 #[(it n)] [] []
      (fun r Γ' H' => r = (.bool (decide (0 ≤ n ∧ n ≤ 60))) ∧ Γ' = [] ∧ H' = []) := by
  refine Spec.of_args Tryd.func29 rfl Tryd.ntmps29 (by simp) fun w => ?_
  refine .seq (.region ?_)
  refine .w (.assign rfl) ?_
  refine .nil (.tn (.seq (.region ?_)))
  refine .w (.move rfl) ?_
  refine .w (.bin rfl rfl BinR.geq_i) ?_
  refine .w (.move rfl) ?_
  refine .join 3 8 (.bool (decide (0 ≤ n ∧ n ≤ 60))) ?_ ?_
  · refine .gn (g := 4) rfl (fun hg5 hg5' => ?_) (fun hg5 hg5' => ?_)
    · refine .gt (g := 5) rfl rfl hg5 ?_
      refine .w (.move rfl) ?_
      refine .gt (g := 5) rfl rfl hg5 ?_
      refine .w (.bin rfl rfl BinR.leq_i) ?_
      refine .w (.pick1 rfl hg5 rfl) ?_
      refine .nil ?_
      refine .head () (by first | (refine ⟨by first | rfl | exact congrArg (fun b => some (Value.bool b)) (by first | exact (decide_eq_true (by omega)).symm | exact (decide_eq_false (by omega)).symm | exact decide_eq_decide.2 (by omega)) | (simp [*]; done) | (show some _ = some _; simp [*]; done), ?_⟩; repeat (first | exact trivial | refine ⟨rfl, ?_⟩))) (fun _ h => h) (Picks.perm (by repeat (first | exact Picks.nil _ | apply Picks.cons | exact Pull.here _ _ | apply Pull.there))) ?_
      trivial
    · refine .gf (g := 5) rfl rfl hg5 (by decide) ?_
      refine .gf (g := 5) rfl rfl hg5 (by decide) ?_
      refine .w (.pick0 rfl hg5 rfl) ?_
      refine .nil ?_
      refine .head () (by first | (refine ⟨by first | rfl | exact congrArg (fun b => some (Value.bool b)) (by first | exact (decide_eq_true (by omega)).symm | exact (decide_eq_false (by omega)).symm | exact decide_eq_decide.2 (by omega)) | (simp [*]; done) | (show some _ = some _; simp [*]; done), ?_⟩; repeat (first | exact trivial | refine ⟨rfl, ?_⟩))) (fun _ h => h) (Picks.perm (by repeat (first | exact Picks.nil _ | apply Picks.cons | exact Pull.here _ _ | apply Pull.there))) ?_
      trivial
  · refine .w (.assign rfl) ?_
    refine .nil (.tn (.ret ?_))
    exact .dn [] [] (res1 rfl (.tmp rfl)) ⟨rfl, rfl, rfl⟩

theorem f13_spec (p : Nat) (s : RA) :
    Spec Tryd.prog 13 #[(ptr p 0)] [Res.cells p s.cells 77] []
      (fun r Γ' H' => r = (it s.rd) ∧ Γ' = [] ∧ H' = []) := by
  refine Spec.of_args Tryd.func13 rfl Tryd.ntmps13 (by simp) fun w => ?_
  refine .seq (.region ?_)
  refine .w (.assign rfl) ?_
  refine .nil (.tn (.seq (.region ?_)))
  refine .w (.move rfl) ?_
  refine .w (.nilCheck rfl) ?_
  refine .w (.fieldAddr fa_77_4 rfl) ?_
  refine .w (.ld one_3 rfl (hj := by first | exact RA.get_rd _ | exact RA.get_st _ | exact RA.get_me _ | exact RA.get_sh _ | exact RA.get_sv _ | exact RA.get_lkr _ | exact RA.get_vdr _ | exact RA.get_dcr _ | exact RA.get_bp _ | exact RA.get_bt _ | exact RA.get_bd _ | rfl | exact tab_get (by first | omega | (simp; omega)) | exact gm (d := 0) (by first | omega | (simp; omega)))) ?_
  refine .w (.assign rfl) ?_
  refine .nil (.tn (.ret ?_))
  exact .dn [] [] (res1 rfl (.tmp rfl)) ⟨rfl, rfl, rfl⟩

theorem f22_spec (p : Nat) (s : RA) :
    Spec Tryd.prog 22 #[(ptr p 0)] [Res.cells p s.cells 77] []
      (fun r Γ' H' => r = (it s.st) ∧ Γ' = [] ∧ H' = []) := by
  refine Spec.of_args Tryd.func22 rfl Tryd.ntmps22 (by simp) fun w => ?_
  refine .seq (.region ?_)
  refine .w (.assign rfl) ?_
  refine .nil (.tn (.seq (.region ?_)))
  refine .w (.move rfl) ?_
  refine .w (.nilCheck rfl) ?_
  refine .w (.fieldAddr fa_77_5 rfl) ?_
  refine .w (.ld one_3 rfl (hj := by first | exact RA.get_rd _ | exact RA.get_st _ | exact RA.get_me _ | exact RA.get_sh _ | exact RA.get_sv _ | exact RA.get_lkr _ | exact RA.get_vdr _ | exact RA.get_dcr _ | exact RA.get_bp _ | exact RA.get_bt _ | exact RA.get_bd _ | rfl | exact tab_get (by first | omega | (simp; omega)) | exact gm (d := 0) (by first | omega | (simp; omega)))) ?_
  refine .w (.assign rfl) ?_
  refine .nil (.tn (.ret ?_))
  exact .dn [] [] (res1 rfl (.tmp rfl)) ⟨rfl, rfl, rfl⟩

theorem f14_spec (p : Nat) (s : RA) :
    Spec Tryd.prog 14 #[(ptr p 0)] [Res.cells p s.cells 77] []
      (fun r Γ' H' => r = (.tuple #[dgV s.lk.v, it s.lk.r]) ∧ Γ' = [] ∧ H' = []) := by
  refine Spec.of_args Tryd.func14 rfl Tryd.ntmps14 (by simp) fun w => ?_
  refine .seq (.region ?_)
  refine .al zero_24 fun b2 => ?_
  refine .w (.assign rfl) ?_
  refine .nil (.tn (.seq ?_))
  refine JC.draw (.one 0 (.one 1 (.one 2 (.one 3 (.one 4 (.one 5 (.one 6 (.one 7 (.one 8 (.one 9 (.one 10 (.one 11 .nil)))))))))))) (fun i => ([10] : List Nat).contains i) (fun i => ([10] : List Nat).contains i) (fun i => ([0, 1, 2, 3, 4, 5, 6, 7, 8, 9, 11] : List Nat).contains i) mixed (by kernel_rfl) (by decide) (by kernel_rfl) ?_
  refine .uw rfl (.move rfl) ?_
  refine .uw rfl (.nilCheck rfl) ?_
  refine .uw rfl (.fieldAddr fa_77_6 rfl) ?_
  refine .uw rfl (.fieldAddr fa_71_0 rfl) ?_
  refine .uw rfl (.as (v' := dgV s.lk.v) (.lda agg_24 rfl) (congrArg (fun l : List Value => Value.agg l.toArray) (RA.drop_lk _))) ?_
  refine .uw rfl (.move rfl) ?_
  refine .uw rfl (.nilCheck rfl) ?_
  refine .uw rfl (.fieldAddr fa_77_6 rfl) ?_
  refine .uw rfl (.fieldAddr fa_71_1 rfl) ?_
  refine .uw rfl (.ld one_3 rfl (hj := by first | exact RA.get_rd _ | exact RA.get_st _ | exact RA.get_me _ | exact RA.get_sh _ | exact RA.get_sv _ | exact RA.get_lkr _ | exact RA.get_vdr _ | exact RA.get_dcr _ | exact RA.get_bp _ | exact RA.get_bt _ | exact RA.get_bd _ | rfl | exact tab_get (by first | omega | (simp; omega)) | exact gm (d := 0) (by first | omega | (simp; omega)))) ?_
  first | refine .mw0 rfl (.sa sz_24) ?_ | refine .mw0 rfl (.so sz_24) ?_ | refine .mw0 rfl (.sr sz_24) ?_
  rintro _ _ _ ⟨rfl, rfl⟩
  refine kp ?_
  refine .uw rfl (.assign rfl) ?_
  refine .nil (.tn (.ret ?_))
  exact .dn [] [] (res2 rfl (.cl agg_24) (.tmp rfl)) ⟨rfl, rfl, rfl⟩

theorem f23_spec (p : Nat) (s : RA) :
    Spec Tryd.prog 23 #[(ptr p 0)] [Res.cells p s.cells 77] []
      (fun r Γ' H' => r = (.tuple #[dgV s.vd.v, it s.vd.r]) ∧ Γ' = [] ∧ H' = []) := by
  refine Spec.of_args Tryd.func23 rfl Tryd.ntmps23 (by simp) fun w => ?_
  refine .seq (.region ?_)
  refine .al zero_24 fun b2 => ?_
  refine .w (.assign rfl) ?_
  refine .nil (.tn (.seq ?_))
  refine JC.draw (.one 0 (.one 1 (.one 2 (.one 3 (.one 4 (.one 5 (.one 6 (.one 7 (.one 8 (.one 9 (.one 10 (.one 11 .nil)))))))))))) (fun i => ([10] : List Nat).contains i) (fun i => ([10] : List Nat).contains i) (fun i => ([0, 1, 2, 3, 4, 5, 6, 7, 8, 9, 11] : List Nat).contains i) mixed (by kernel_rfl) (by decide) (by kernel_rfl) ?_
  refine .uw rfl (.move rfl) ?_
  refine .uw rfl (.nilCheck rfl) ?_
  refine .uw rfl (.fieldAddr fa_77_7 rfl) ?_
  refine .uw rfl (.fieldAddr fa_71_0 rfl) ?_
  refine .uw rfl (.as (v' := dgV s.vd.v) (.lda agg_24 rfl) (congrArg (fun l : List Value => Value.agg l.toArray) (RA.drop_vd _))) ?_
  refine .uw rfl (.move rfl) ?_
  refine .uw rfl (.nilCheck rfl) ?_
  refine .uw rfl (.fieldAddr fa_77_7 rfl) ?_
  refine .uw rfl (.fieldAddr fa_71_1 rfl) ?_
  refine .uw rfl (.ld one_3 rfl (hj := by first | exact RA.get_rd _ | exact RA.get_st _ | exact RA.get_me _ | exact RA.get_sh _ | exact RA.get_sv _ | exact RA.get_lkr _ | exact RA.get_vdr _ | exact RA.get_dcr _ | exact RA.get_bp _ | exact RA.get_bt _ | exact RA.get_bd _ | rfl | exact tab_get (by first | omega | (simp; omega)) | exact gm (d := 0) (by first | omega | (simp; omega)))) ?_
  first | refine .mw0 rfl (.sa sz_24) ?_ | refine .mw0 rfl (.so sz_24) ?_ | refine .mw0 rfl (.sr sz_24) ?_
  rintro _ _ _ ⟨rfl, rfl⟩
  refine kp ?_
  refine .uw rfl (.assign rfl) ?_
  refine .nil (.tn (.ret ?_))
  exact .dn [] [] (res2 rfl (.cl agg_24) (.tmp rfl)) ⟨rfl, rfl, rfl⟩

theorem f18_spec (p : Nat) (s : RA) :
    Spec Tryd.prog 18 #[(ptr p 0)] [Res.cells p s.cells 77] []
      (fun r Γ' H' => r = (.tuple #[dgV s.dc.v, .bool (decide (0 ≤ s.dc.r))]) ∧ Γ' = [] ∧ H' = []) := by
  refine Spec.of_args Tryd.func18 rfl Tryd.ntmps18 (by simp) fun w => ?_
  refine .seq (.region ?_)
  refine .al zero_24 fun b2 => ?_
  refine .w (.assign rfl) ?_
  refine .nil (.tn (.seq ?_))
  refine JC.draw (.one 0 (.one 1 (.one 2 (.one 3 (.one 4 (.one 5 (.one 6 (.one 7 (.one 8 (.one 9 (.one 10 (.one 11 (.one 12 .nil))))))))))))) (fun i => ([11] : List Nat).contains i) (fun i => ([11] : List Nat).contains i) (fun i => ([0, 1, 2, 3, 4, 5, 6, 7, 8, 9, 10, 12] : List Nat).contains i) mixed (by kernel_rfl) (by decide) (by kernel_rfl) ?_
  refine .uw rfl (.move rfl) ?_
  refine .uw rfl (.nilCheck rfl) ?_
  refine .uw rfl (.fieldAddr fa_77_8 rfl) ?_
  refine .uw rfl (.fieldAddr fa_71_0 rfl) ?_
  refine .uw rfl (.as (v' := dgV s.dc.v) (.lda agg_24 rfl) (congrArg (fun l : List Value => Value.agg l.toArray) (RA.drop_dc _))) ?_
  refine .uw rfl (.move rfl) ?_
  refine .uw rfl (.nilCheck rfl) ?_
  refine .uw rfl (.fieldAddr fa_77_8 rfl) ?_
  refine .uw rfl (.fieldAddr fa_71_1 rfl) ?_
  refine .uw rfl (.ld one_3 rfl (hj := by first | exact RA.get_rd _ | exact RA.get_st _ | exact RA.get_me _ | exact RA.get_sh _ | exact RA.get_sv _ | exact RA.get_lkr _ | exact RA.get_vdr _ | exact RA.get_dcr _ | exact RA.get_bp _ | exact RA.get_bt _ | exact RA.get_bd _ | rfl | exact tab_get (by first | omega | (simp; omega)) | exact gm (d := 0) (by first | omega | (simp; omega)))) ?_
  refine .uw rfl (.bin rfl rfl BinR.geq_i) ?_
  first | refine .mw0 rfl (.sa sz_24) ?_ | refine .mw0 rfl (.so sz_24) ?_ | refine .mw0 rfl (.sr sz_24) ?_
  rintro _ _ _ ⟨rfl, rfl⟩
  refine kp ?_
  refine .uw rfl (.assign rfl) ?_
  refine .nil (.tn (.ret ?_))
  exact .dn [] [] (res2 rfl (.cl agg_24) (.tmp rfl)) ⟨rfl, rfl, rfl⟩

theorem f21_spec (p : Nat) (s : RA) (hok : s.Ok) (n : Int) :
    Spec Tryd.prog 21 #[(ptr p 0), (it n)] [Res.cells p s.cells 77, Res.rd s.sv s.S.length 1 (s.S.map u64)] []
      (fun r Γ' H' => r = (it (s.abs.proposer n)) ∧ Γ' = [] ∧ H' = []) := by
  refine Spec.of_args Tryd.func21 rfl Tryd.ntmps21 (by simp) fun w => ?_
  obtain ⟨l1, l2, hsum, me0, me1, sh0, sh1, hpr, hta, hdn, htal, hfine⟩ := hok
  refine .seq (.region ?_)
  refine .w (.assign rfl) ?_
  refine .nil (.tn (.seq (.seq (.region ?_))))
  refine .w (.move rfl) ?_
  refine .c (f29_spec n) body_29 ?_
  refine .w (.not rfl) ?_
  refine .nil (.tn ?_)
  refine .cn rfl (fun hc1 => ?_) (fun hc1 => ?_)
  · have hp : s.abs.proposer n = -1 := if_neg hc1
    refine .seq (.region ?_)
    refine .w (.assign rfl) ?_
    refine .nil (.tn (.ret (.then_ret ?_)))
    exact .dn [] [] (res1 rfl (.tmp rfl)) ⟨by rw [hp], rfl, rfl⟩
  · have hm1 := Int.emod_nonneg s.sh (show (s.S.length : Int) ≠ 0 by omega)
    have hm2 := Int.emod_lt_of_pos s.sh (show (0 : Int) < s.S.length by omega)
    have hp : s.abs.proposer n = (s.sh % s.S.length + n) % s.S.length := if_pos hc1
    refine .skip (.tn (.seq (.region ?_)))
    refine .w (.move rfl) ?_
    refine .w (.nilCheck rfl) ?_
    refine .w (.fieldAddr fa_77_0 rfl) ?_
    refine .w (.ld one_22 rfl (hj := by first | exact RA.get_rd _ | exact RA.get_st _ | exact RA.get_me _ | exact RA.get_sh _ | exact RA.get_sv _ | exact RA.get_lkr _ | exact RA.get_vdr _ | exact RA.get_dcr _ | exact RA.get_bp _ | exact RA.get_bt _ | exact RA.get_bd _ | rfl | exact tab_get (by first | omega | (simp; omega)) | exact gm (d := 0) (by first | omega | (simp; omega)))) ?_
    refine .w (.len Tryd.underlying22 rfl) ?_
    refine .w (.assign rfl) ?_
    refine .nil (.tn (.seq (.region ?_)))
    refine .w (.move rfl) ?_
    refine .w (.nilCheck rfl) ?_
    refine .w (.fieldAddr fa_77_2 rfl) ?_
    refine .w (.ld one_3 rfl (hj := by first | exact RA.get_rd _ | exact RA.get_st _ | exact RA.get_me _ | exact RA.get_sh _ | exact RA.get_sv _ | exact RA.get_lkr _ | exact RA.get_vdr _ | exact RA.get_dcr _ | exact RA.get_bp _ | exact RA.get_bt _ | exact RA.get_bd _ | rfl | exact tab_get (by first | omega | (simp; omega)) | exact gm (d := 0) (by first | omega | (simp; omega)))) ?_
    refine .w (.move rfl) ?_
    refine .w (.bin rfl rfl (BinR.rem_i (by first | omega | decide | (simp; omega)) (by first | omega | decide | (simp; omega)))) ?_
    refine .w (.move rfl) ?_
    refine .w (.bin rfl rfl (BinR.add_i (by first | (constructor <;> omega) | (constructor <;> simp <;> omega)))) ?_
    refine .w (.move rfl) ?_
    refine .w (.bin rfl rfl (BinR.rem_i (by first | omega | decide | (simp; omega)) (by first | omega | decide | (simp; omega)))) ?_
    refine .w (.assign rfl) ?_
    refine .nil (.tn (.ret ?_))
    exact .dn [] [] (res1 rfl (.tmp rfl)) ⟨by rw [hp], rfl, rfl⟩

theorem f39_spec (p : Nat) (s : RA) (k : Int) (h0 : 0 ≤ k) (h3 : k ≤ 3) :
    Spec Tryd.prog 39 #[(ptr p 0), (it k)] [Res.cells p s.cells 77] []
      (fun r Γ' H' => True ∧ Γ' = [] ∧ H' = [Res.row r 1 41 35 (acC (s.abs.set k))]) := by
  refine Spec.of_args Tryd.func39 rfl Tryd.ntmps39 (by simp) fun w => ?_
  refine .seq (.region ?_)
  refine .w (.assign rfl) ?_
  refine .nil (.tn (.seq (.region ?_)))
  refine .w (.move rfl) ?_
  refine .w (.bin rfl rfl (BinR.add_i (by first | (constructor <;> omega) | (constructor <;> simp <;> omega)))) ?_
  refine .w (.move rfl) ?_
  refine .w (.nilCheck rfl) ?_
  refine .w (.fieldAddr fa_77_4 rfl) ?_
  refine .w (.ld one_3 rfl (hj := by first | exact RA.get_rd _ | exact RA.get_st _ | exact RA.get_me _ | exact RA.get_sh _ | exact RA.get_sv _ | exact RA.get_lkr _ | exact RA.get_vdr _ | exact RA.get_dcr _ | exact RA.get_bp _ | exact RA.get_bt _ | exact RA.get_bd _ | rfl | exact tab_get (by first | omega | (simp; omega)) | exact gm (d := 0) (by first | omega | (simp; omega)))) ?_
  refine .w (.as (v' := acV ⟨3 + k, s.rd, D0, 0⟩) (.bd bld_41) (congrArg (fun l : List Value => Value.agg l.toArray) (act2 _ _))) ?_
  refine .ls Tryd.underlying31 info_41 (fun v12 => ?_) (hsz := (by intro v hv; rw [List.mem_singleton.1 hv]; exact acV_size _))
  refine .w (.assign rfl) ?_
  refine .nil (.tn (.ret ?_))
  exact .dn [] [Res.row _ 1 41 35 (acC (s.abs.set k))] (res1 rfl (.tmp rfl)) ⟨trivial, rfl, rfl⟩

theorem f33_spec (p : Nat) (s : RA) (k : Int) (v : D32) :
    Spec Tryd.prog 33 #[(ptr p 0), (it k), (dgV v)] [] [Res.cells p s.cells 77]
      (fun r Γ' H' => True ∧ Γ' = [] ∧ H' = [Res.cells p (s.setSt k).cells 77, Res.row r 1 41 35 (acC (s.abs.vote k v).2)]) := by
  refine Spec.of_args Tryd.func33 rfl Tryd.ntmps33 (by simp) fun w => ?_
  refine .seq (.region ?_)
  refine .bx fun b5 => ?_
  refine .w (.assign rfl) ?_
  refine .nil (.tn (.seq (.region ?_)))
  refine .w (.move rfl) ?_
  refine .w (.move rfl) ?_
  refine .w (.nilCheck rfl) ?_
  refine .w (.fieldAddr fa_77_5 rfl) ?_
  refine .s1 sz_3 ?_
  rw [RA.set_st]
  refine .nil (.tn (.seq ?_))
  refine JC.draw (.one 0 (.one 1 (.one 2 (.one 3 (.one 4 (.one 5 (.one 6 (.one 7 (.one 8 .nil))))))))) (fun i => ([7] : List Nat).contains i) (fun i => ([7] : List Nat).contains i) (fun i => ([0, 1, 2, 3, 6, 8] : List Nat).contains i) mixed (by kernel_rfl) (by decide) (by kernel_rfl) ?_
  refine .uw rfl (.move rfl) ?_
  refine .uw rfl (.move rfl) ?_
  refine .uw rfl (.nilCheck rfl) ?_
  refine .uw rfl (.fieldAddr fa_77_4 rfl) ?_
  refine .w rfl (.ld one_3 rfl (hj := by first | exact RA.get_rd _ | exact RA.get_st _ | exact RA.get_me _ | exact RA.get_sh _ | exact RA.get_sv _ | exact RA.get_lkr _ | exact RA.get_vdr _ | exact RA.get_dcr _ | exact RA.get_bp _ | exact RA.get_bt _ | exact RA.get_bd _ | rfl | exact tab_get (by first | omega | (simp; omega)) | exact gm (d := 0) (by first | omega | (simp; omega)))) ?_
  refine .w rfl (.as (v' := dgV v) (.lda agg_24 rfl) rfl) ?_
  refine .uw rfl (.as (v' := acV ⟨k, s.rd, v, 0⟩) (.bd bld_41) (congrArg (fun l : List Value => Value.agg l.toArray) (act3 _ _ _))) ?_
  refine .mw rfl (Mv.lit Tryd.underlying31 info_41 rfl rfl (by intro v hv; rw [List.mem_singleton.1 hv]; exact acV_size _) (by decide) (by decide) (by unfold maxLen; omega)) ?_
  rintro v18 _ _ ⟨rfl, rfl⟩
  refine kp ?_
  refine .uw rfl (.assign rfl) ?_
  refine .nil (.tn (.ret ?_))
  exact .dn [] [Res.cells p (s.setSt k).cells 77, Res.row _ 1 41 35 (acC (s.abs.vote k v).2)] (res1 rfl (.tmp rfl)) ⟨trivial, rfl, rfl⟩

theorem f28_spec (p : Nat) (s : RA) (hok : s.Ok) (r : Int) (h0 : 0 ≤ r) (h1 : r ≤ 60) :
    Spec Tryd.prog 28 #[(ptr p 0), (it r)] [Res.rd s.sv s.S.length 1 (s.S.map u64)] [Res.cells p s.cells 77]
      (fun v Γ' H' => True ∧ Γ' = [] ∧ H' = [Res.cells p ((s.setRd r).setSt 1).cells 77, Res.row v 1 41 35 (acC (s.abs.begin r).2)]) := by
  refine Spec.of_args Tryd.func28 rfl Tryd.ntmps28 (by simp) fun w => ?_
  have hok1 : ((s.setRd r).setSt 1).Ok := hok.begin r h0 h1
  refine .seq (.region ?_)
  refine .w (.assign rfl) ?_
  refine .nil (.tn (.seq (.region ?_)))
  refine .w (.move rfl) ?_
  refine .w (.move rfl) ?_
  refine .w (.move rfl) ?_
  refine .w (.nilCheck rfl) ?_
  refine .w (.fieldAddr fa_77_4 rfl) ?_
  refine .s1 sz_3 ?_
  rw [RA.set_rd]
  refine .w (.nilCheck rfl) ?_
  refine .w (.fieldAddr fa_77_5 rfl) ?_
  refine .s1 sz_3 ?_
  rw [RA.set_st]
  refine .nil (.tn (.seq (.seq ?_)))
  refine JC.draw (.one 0 (.one 1 (.one 3 (.one 4 (.one 5 (.one 6 (.one 2 (.one 7 .nil)))))))) (fun i => ([] : List Nat).contains i) (fun i => ([2] : List Nat).contains i) (fun i => ([0, 1, 3, 4, 5, 7] : List Nat).contains i) mixed (by kernel_rfl) (by decide) (by kernel_rfl) ?_
  refine .uw rfl (.move rfl) ?_
  refine .uw rfl (.move rfl) ?_
  refine .uw rfl (.move rfl) ?_
  refine .uw rfl (.nilCheck rfl) ?_
  refine .uw rfl (.fieldAddr fa_77_1 rfl) ?_
  refine .w rfl (.ld one_3 rfl (hj := by first | exact RA.get_rd _ | exact RA.get_st _ | exact RA.get_me _ | exact RA.get_sh _ | exact RA.get_sv _ | exact RA.get_lkr _ | exact RA.get_vdr _ | exact RA.get_dcr _ | exact RA.get_bp _ | exact RA.get_bt _ | exact RA.get_bd _ | rfl | exact tab_get (by first | omega | (simp; omega)) | exact gm (d := 0) (by first | omega | (simp; omega)))) ?_
  refine .mw rfl (.c (f21_spec p ((s.setRd r).setSt 1) hok1 r) body_21) ?_
  rintro _ _ _ ⟨rfl, rfl, rfl⟩
  refine kp ?_
  refine .uw rfl (.bin rfl rfl BinR.neq_i) ?_
  refine .nil (.tn ?_)
  refine .cn rfl (fun hc1 => ?_) (fun hc1 => ?_)
  · skip
    refine .seq (.region ?_)
    refine .w (.move rfl) ?_
    refine .cb (f39_spec p ((s.setRd r).setSt 1) 1 (by decide) (by decide)) body_39 ?_
    rintro _ _ ⟨_, _, rfl⟩
    refine .ap ?_
    rw [show ((s.setRd r).setSt 1).abs.set 1 = (s.abs.begin r).2 from (RA.begin_set (a := s.abs) hc1).symm]
    refine .w (.assign rfl) ?_
    refine .nil (.tn (.ret (.then_ret ?_)))
    exact .dn [] [Res.cells p ((s.setRd r).setSt 1).cells 77, Res.row _ 1 41 35 (acC (s.abs.begin r).2)] (res1 rfl (.tmp rfl)) ⟨trivial, rfl, rfl⟩
  · skip
    refine .skip (.tn (.seq (.region ?_)))
    refine .w (.move rfl) ?_
    refine .w (.nilCheck rfl) ?_
    refine .w (.fieldAddr fa_77_3 rfl) ?_
    refine .w (.as (v' := dgV s.own) (.lda agg_24 rfl) (congrArg (fun l : List Value => Value.agg l.toArray) (RA.drop_own ((s.setRd r).setSt 1)))) ?_
    refine .w (.as (v' := hdV ⟨s.own, -1⟩) (.bd bld_71) (congrArg (fun l : List Value => Value.agg l.toArray) (hd2 _ _))) ?_
    refine .al zero_71 fun b5 => ?_
    refine .sa sz_71 ?_ (h1 := (Held.one _))
    refine .nil (.tn (.seq (.seq (.region ?_))))
    refine .w (.move rfl) ?_
    refine .w (.nilCheck rfl) ?_
    refine .w (.fieldAddr fa_77_7 rfl) ?_
    refine .w (.fieldAddr fa_71_1 rfl) ?_
    refine .w (.ld one_3 rfl (hj := by first | exact RA.get_rd _ | exact RA.get_st _ | exact RA.get_me _ | exact RA.get_sh _ | exact RA.get_sv _ | exact RA.get_lkr _ | exact RA.get_vdr _ | exact RA.get_dcr _ | exact RA.get_bp _ | exact RA.get_bt _ | exact RA.get_bd _ | rfl | exact tab_get (by first | omega | (simp; omega)) | exact gm (d := 0) (by first | omega | (simp; omega)))) ?_
    refine .w (.bin rfl rfl BinR.geq_i) ?_
    refine .nil (.tn ?_)
    refine .cn rfl (fun hc2 => ?_) (fun hc2 => ?_)
    · have hb : (s.abs.begin r).2 = [⟨1, r, s.vd.v, s.vd.r⟩] := RA.begin_valid (a := s.abs) (r := r) hc1 hc2
      refine .region ?_
      refine .w (.move rfl) ?_
      refine .w (.nilCheck rfl) ?_
      refine .w (.fieldAddr fa_77_7 rfl) ?_
      refine .w (.as (v' := hdV s.vd) (.lda agg_71 rfl) (congrArg (fun l : List Value => Value.agg l.toArray) (RA.drop_vdh ((s.setRd r).setSt 1)))) ?_
      refine .sa sz_71 ?_ (h1 := (Held.one _))
      refine .nil (.tn (.seq (.region ?_)))
      refine .w (.move rfl) ?_
      refine .w (.fieldAddr fa_71_0 rfl) ?_
      refine .w (.as (v' := dgV _) (.lda agg_24 rfl) (congrArg (fun l : List Value => Value.agg l.toArray) (RA.held_v _))) ?_
      refine .w (.fieldAddr fa_71_1 rfl) ?_
      refine .w (.ld one_3 rfl (hj := by first | exact RA.held_r _ | rfl)) ?_
      refine .w (.as (v' := acV ⟨1, r, _, _⟩) (.bd bld_41) (congrArg (fun l : List Value => Value.agg l.toArray) (act4 _ _ _ _))) ?_
      refine .ls Tryd.underlying31 info_41 (fun v44 => ?_) (hsz := (by intro v hv; rw [List.mem_singleton.1 hv]; exact acV_size _))
      rw [ls1]
      try dsimp only
      rw [← hb]
      refine .w (.assign rfl) ?_
      refine .nil (.tn (.ret ?_))
      exact .dn [] [Res.cells p ((s.setRd r).setSt 1).cells 77, Res.row _ 1 41 35 (acC (s.abs.begin r).2)] (res1 rfl (.tmp rfl)) ⟨trivial, rfl, rfl⟩
    · have hb : (s.abs.begin r).2 = [⟨1, r, s.own, -1⟩] := RA.begin_own (a := s.abs) (r := r) hc1 hc2
      refine .skip (.tn (.seq (.region ?_)))
      refine .w (.move rfl) ?_
      refine .w (.fieldAddr fa_71_0 rfl) ?_
      refine .w (.as (v' := dgV _) (.lda agg_24 rfl) (congrArg (fun l : List Value => Value.agg l.toArray) (RA.held_v _))) ?_
      refine .w (.fieldAddr fa_71_1 rfl) ?_
      refine .w (.ld one_3 rfl (hj := by first | exact RA.held_r _ | rfl)) ?_
      refine .w (.as (v' := acV ⟨1, r, _, _⟩) (.bd bld_41) (congrArg (fun l : List Value => Value.agg l.toArray) (act4 _ _ _ _))) ?_
      refine .ls Tryd.underlying31 info_41 (fun v44 => ?_) (hsz := (by intro v hv; rw [List.mem_singleton.1 hv]; exact acV_size _))
      rw [ls1]
      try dsimp only
      rw [← hb]
      refine .w (.assign rfl) ?_
      refine .nil (.tn (.ret ?_))
      exact .dn [] [Res.cells p ((s.setRd r).setSt 1).cells 77, Res.row _ 1 41 35 (acC (s.abs.begin r).2)] (res1 rfl (.tmp rfl)) ⟨trivial, rfl, rfl⟩
end Go.Proofs.YtncececcopalgaaDoor
