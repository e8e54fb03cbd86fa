/- Walks: a round's tallies; rules. -/
import Derived.Test.YtncececcopalgaaDoorF5
namespace Go.Proofs.YtncececcopalgaaDoor
open Go.RowKit
set_option maxRecDepth 100000
set_option linter.unusedVariables false
set_option linter.unusedSimpArgs false
theorem f31A_spec (p : Nat) (s : RA) (hok : s.Ok) (kind round : Int) (t : TP) (hg : s.ta.get (kind, round) = some t) :
    Spec Tryd.prog 31 #[(ptr p 0), (it kind), (it round)] [Res.var 0 [u64 9223372036854775808, u64 0, u64 0, u64 0]] (RA.H p s)
      (fun r Γ' H' => ∃ (s' : RA) (t : TP), s'.ta.get (kind, round) = some t ∧ s.Like s' ∧ r = ptr t.p 0 ∧ Γ' = [] ∧ H' = RA.H p s') := by
  refine Spec.of_args Tryd.func31 rfl Tryd.ntmps31 (by simp) fun w => ?_
  refine .seq (.region ?_)
  refine .w (.assign rfl) ?_
  refine .nil (.tn (.seq (.region ?_)))
  refine .w (.move rfl) ?_
  refine .w (.move rfl) ?_
  refine .w (.as (v' := k2V (kind, round)) (.build bld_103 rfl rfl) rfl) ?_
  refine .al zero_103 fun b7 => ?_
  refine .sa sz_103 ?_
  refine .nil (.tn (.seq (.seq ?_)))
  refine JC.draw (.one 0 (.one 1 (.one 2 (.one 3 (.one 4 (.one 5 (.one 6 .nil))))))) (fun i => ([] : List Nat).contains i) (fun i => ([] : List Nat).contains i) (fun i => ([0, 1, 2, 6] : List Nat).contains i) mixed (by kernel_rfl) (by decide) (by kernel_rfl) ?_
  refine .uw rfl (.move rfl) ?_
  refine .uw rfl (.nilCheck rfl) ?_
  refine .uw rfl (.fieldAddr fa_77_10 rfl) ?_
  refine .w rfl (.ld one_74 rfl (hj := by first | exact RA.get_rd _ | exact RA.get_st _ | exact RA.get_me _ | exact RA.get_sh _ | exact RA.get_sv _ | exact RA.get_lkr _ | exact RA.get_vdr _ | exact RA.get_dcr _ | exact RA.get_bp _ | exact RA.get_bt _ | exact RA.get_bd _ | rfl | exact tab_get (by first | omega | (simp; omega)) | exact gm (d := 0) (by first | omega | (simp; omega)))) ?_
  refine .w rfl (.as (v' := k2V (kind, round)) (.lda agg_103 rfl) rfl) ?_
  refine .w rfl (.as (v' := ptr t.p 0) (.lk (kind, round) Tryd.underlying74 mkey_74 zf_67) (by rw [hg]; rfl)) ?_
  refine .uw rfl (.as (v' := .bool false) (.bin rfl rfl (BinR.eql_p Tryd.underlying67)) rfl) ?_
  refine .nil (.tn ?_)
  refine .cf rfl ?_
  refine .skip (.tn (.seq ?_))
  refine JC.draw (.one 0 (.one 1 (.one 2 (.one 3 (.one 4 (.one 5 (.one 6 .nil))))))) (fun i => ([] : List Nat).contains i) (fun i => ([] : List Nat).contains i) (fun i => ([0, 1, 2, 6] : List Nat).contains i) mixed (by kernel_rfl) (by decide) (by kernel_rfl) ?_
  refine .uw rfl (.move rfl) ?_
  refine .uw rfl (.nilCheck rfl) ?_
  refine .uw rfl (.fieldAddr fa_77_10 rfl) ?_
  refine .w rfl (.ld one_74 rfl (hj := by first | exact RA.get_rd _ | exact RA.get_st _ | exact RA.get_me _ | exact RA.get_sh _ | exact RA.get_sv _ | exact RA.get_lkr _ | exact RA.get_vdr _ | exact RA.get_dcr _ | exact RA.get_bp _ | exact RA.get_bt _ | exact RA.get_bd _ | rfl | exact tab_get (by first | omega | (simp; omega)) | exact gm (d := 0) (by first | omega | (simp; omega)))) ?_
  refine .w rfl (.as (v' := k2V (kind, round)) (.lda agg_103 rfl) rfl) ?_
  refine .w rfl (.as (v' := ptr t.p 0) (.lk (kind, round) Tryd.underlying74 mkey_74 zf_67) (by rw [hg]; rfl)) ?_
  refine .uw rfl (.assign rfl) ?_
  refine .nil (.tn (.ret ?_))
  exact .dn [] (RA.H p s) (res1 rfl (.tmp rfl)) ⟨s, t, hg, RA.Like.refl hok, rfl, rfl, rfl⟩

theorem f31B_spec (p : Nat) (s : RA) (hok : s.Ok) (kind round : Int) (hg : s.ta.get (kind, round) = none) :
    Spec Tryd.prog 31 #[(ptr p 0), (it kind), (it round)] [Res.var 0 [u64 9223372036854775808, u64 0, u64 0, u64 0]] (RA.H p s)
      (fun r Γ' H' => ∃ (s' : RA) (t : TP), s'.ta.get (kind, round) = some t ∧ s.Like s' ∧ r = ptr t.p 0 ∧ Γ' = [] ∧ H' = RA.H p s') := by
  refine Spec.of_args Tryd.func31 rfl Tryd.ntmps31 (by simp) fun w => ?_
  refine .seq (.region ?_)
  refine .w (.assign rfl) ?_
  refine .nil (.tn (.seq (.region ?_)))
  refine .w (.move rfl) ?_
  refine .w (.move rfl) ?_
  refine .w (.as (v' := k2V (kind, round)) (.build bld_103 rfl rfl) rfl) ?_
  refine .al zero_103 fun b7 => ?_
  refine .sa sz_103 ?_
  refine .nil (.tn (.seq (.seq ?_)))
  refine JC.draw (.one 0 (.one 1 (.one 2 (.one 3 (.one 4 (.one 5 (.one 6 .nil))))))) (fun i => ([] : List Nat).contains i) (fun i => ([] : List Nat).contains i) (fun i => ([0, 1, 2, 6] : List Nat).contains i) mixed (by kernel_rfl) (by decide) (by kernel_rfl) ?_
  refine .uw rfl (.move rfl) ?_
  refine .uw rfl (.nilCheck rfl) ?_
  refine .uw rfl (.fieldAddr fa_77_10 rfl) ?_
  refine .w rfl (.ld one_74 rfl (hj := by first | exact RA.get_rd _ | exact RA.get_st _ | exact RA.get_me _ | exact RA.get_sh _ | exact RA.get_sv _ | exact RA.get_lkr _ | exact RA.get_vdr _ | exact RA.get_dcr _ | exact RA.get_bp _ | exact RA.get_bt _ | exact RA.get_bd _ | rfl | exact tab_get (by first | omega | (simp; omega)) | exact gm (d := 0) (by first | omega | (simp; omega)))) ?_
  refine .w rfl (.as (v' := k2V (kind, round)) (.lda agg_103 rfl) rfl) ?_
  refine .w rfl (.as (v' := .pointer none) (.lk (kind, round) Tryd.underlying74 mkey_74 zf_67) (by rw [hg]; rfl)) ?_
  refine .uw rfl (.as (v' := .bool true) (.bin rfl rfl (BinR.eql_p Tryd.underlying67)) rfl) ?_
  refine .nil (.tn ?_)
  refine .ct rfl ?_
  refine JC.draw (.one 0 (.one 1 (.one 2 (.one 3 (.one 4 (.one 5 (.one 6 (.one 7 (.one 8 (.one 9 (.one 10 (.one 11 (.one 12 (.one 13 .nil)))))))))))))) (fun i => ([13] : List Nat).contains i) (fun i => ([9, 13] : List Nat).contains i) (fun i => ([0, 1, 2, 5, 6, 7, 10, 11, 12] : List Nat).contains i) mixed (by kernel_rfl) (by decide) (by kernel_rfl) ?_
  refine .uw rfl (.move rfl) ?_
  refine .uw rfl (.nilCheck rfl) ?_
  refine .uw rfl (.fieldAddr fa_77_10 rfl) ?_
  refine .w rfl (.ld one_74 rfl (hj := by first | exact RA.get_rd _ | exact RA.get_st _ | exact RA.get_me _ | exact RA.get_sh _ | exact RA.get_sv _ | exact RA.get_lkr _ | exact RA.get_vdr _ | exact RA.get_dcr _ | exact RA.get_bp _ | exact RA.get_bt _ | exact RA.get_bd _ | rfl | exact tab_get (by first | omega | (simp; omega)) | exact gm (d := 0) (by first | omega | (simp; omega)))) ?_
  refine .w rfl (.as (v' := k2V (kind, round)) (.lda agg_103 rfl) rfl) ?_
  refine .uw rfl (.move rfl) ?_
  refine .uw rfl (.nilCheck rfl) ?_
  refine .uw rfl (.fieldAddr fa_77_0 rfl) ?_
  refine .w rfl (.ld one_22 rfl (hj := by first | exact RA.get_rd _ | exact RA.get_st _ | exact RA.get_me _ | exact RA.get_sh _ | exact RA.get_sv _ | exact RA.get_lkr _ | exact RA.get_vdr _ | exact RA.get_dcr _ | exact RA.get_bp _ | exact RA.get_bt _ | exact RA.get_bd _ | rfl | exact tab_get (by first | omega | (simp; omega)) | exact gm (d := 0) (by first | omega | (simp; omega)))) ?_
  refine .mw rfl (.cb (f25ok_spec s.sv s.S hok.l1 hok.l2 hok.sum) body_25 (h0 := by rintro _ _ _ ⟨_, _, _, _, _, h, _⟩; exact h)) ?_
  rintro _ _ _ ⟨_, ⟨q, a, b, sv, rfl, _, rfl⟩, hΓ, hH⟩
  simp only [List.cons_append, List.nil_append] at hH; subst hΓ hH
  refine kp ?_
  refine JR.know (φ := ∃ A c, sv = .slice A s.S.length c) (fun w hs => hs.rowSl (v := sv) (e := 48) (size := 1) (xs := s.S.map u64) (by repeat (first | exact List.Mem.head _ | refine List.Mem.tail _ ?_))) fun ⟨A, c, hsv⟩ => ?_
  subst hsv
  refine .uw rfl (.move rfl) ?_
  refine .uw rfl (.as (v' := ptr q 0) (.extract rfl rfl) rfl) ?_
  refine .uw rfl (.extract rfl rfl) ?_
  refine .mw0 rfl (.mu (kind, round) (⟨q, a, b, .slice A s.S.length c, MM.nil, MM.nil⟩ : TP) Tryd.underlying74 mkey_74) ?_
  rintro _ _ _ ⟨rfl, rfl⟩
  refine kp ?_
  refine .rs (RA.tals_new (s := s) (t := (⟨q, a, b, .slice A s.S.length c, MM.nil, MM.nil⟩ : TP)) hg) ?_
  refine .nil (.tn (.seq ?_))
  refine JC.draw (.one 0 (.one 1 (.one 2 (.one 3 (.one 4 (.one 5 (.one 6 .nil))))))) (fun i => ([] : List Nat).contains i) (fun i => ([] : List Nat).contains i) (fun i => ([0, 1, 2, 6] : List Nat).contains i) mixed (by kernel_rfl) (by decide) (by kernel_rfl) ?_
  refine .uw rfl (.move rfl) ?_
  refine .uw rfl (.nilCheck rfl) ?_
  refine .uw rfl (.fieldAddr fa_77_10 rfl) ?_
  refine .w rfl (.ld one_74 rfl (hj := by first | exact RA.get_rd _ | exact RA.get_st _ | exact RA.get_me _ | exact RA.get_sh _ | exact RA.get_sv _ | exact RA.get_lkr _ | exact RA.get_vdr _ | exact RA.get_dcr _ | exact RA.get_bp _ | exact RA.get_bt _ | exact RA.get_bd _ | rfl | exact tab_get (by first | omega | (simp; omega)) | exact gm (d := 0) (by first | omega | (simp; omega)))) ?_
  refine .w rfl (.as (v' := k2V (kind, round)) (.lda agg_103 rfl) rfl) ?_
  refine .w rfl (.as (v' := ptr q 0) (.lk (kind, round) Tryd.underlying74 mkey_74 zf_67) (by rw [MM.get_put, if_pos rfl]; rfl)) ?_
  refine .uw rfl (.assign rfl) ?_
  refine .nil (.tn (.ret ?_))
  exact .dn [] (RA.H p (s.setT (kind, round) (⟨q, a, b, .slice A s.S.length c, MM.nil, MM.nil⟩ : TP))) (res1 rfl (.tmp rfl)) ⟨s.setT (kind, round) (⟨q, a, b, .slice A s.S.length c, MM.nil, MM.nil⟩ : TP), (⟨q, a, b, .slice A s.S.length c, MM.nil, MM.nil⟩ : TP), (by show (s.ta.put _ _).get _ = _; rw [MM.get_put, if_pos rfl]), ⟨RA.ok_setT hok (tok_nil _) MM.ok_nil, RA.abs_newT hg rfl, rfl⟩, rfl, rfl, rfl⟩

theorem f31_spec (p : Nat) (s : RA) (hok : s.Ok) (kind round : Int) :
    Spec Tryd.prog 31 #[(ptr p 0), (it kind), (it round)] [Res.var 0 [u64 9223372036854775808, u64 0, u64 0, u64 0]] (RA.H p s)
      (fun r Γ' H' => ∃ (s' : RA) (t : TP), s'.ta.get (kind, round) = some t ∧ s.Like s' ∧ r = ptr t.p 0 ∧ Γ' = [] ∧ H' = RA.H p s') := by
  cases hg : s.ta.get (kind, round) with
  | some t => exact f31A_spec p s hok kind round t hg
  | none => exact f31B_spec p s hok kind round hg

theorem f51_spec (p : Nat) (s : RA) (hok : s.Ok) (kind round : Int) (v : D32) :
    Spec Tryd.prog 51 #[(ptr p 0), (it kind), (it round), (dgV v)] [Res.var 0 [u64 9223372036854775808, u64 0, u64 0, u64 0]] (RA.H p s)
      (fun r Γ' H' => ∃ s' : RA,  s.Like s' ∧ r = .bool (s.abs.quorum kind round v) ∧ Γ' = [] ∧ H' = RA.H p s') := by
  refine Spec.of_args Tryd.func51 rfl Tryd.ntmps51 (by simp) fun w => ?_
  refine .seq (.region ?_)
  refine .bx fun b7 => ?_
  refine .w (.assign rfl) ?_
  refine .nil (.tn (.seq (.region ?_)))
  refine .w (.move rfl) ?_
  refine .w (.move rfl) ?_
  refine .w (.move rfl) ?_
  refine .cb (f31_spec p s hok kind round) body_31 ?_ (h0 := by rintro _ _ _ ⟨_, _, _, _, _, h, _⟩; exact h)
  rintro _ _ ⟨s1, t, hk, hl1, rfl, _, rfl⟩
  refine .ap ?_
  obtain ⟨s1_B, s1_p, _⟩ := RA.tals_split (S := s1.S) hk
  refine .us s1_p ?_
  refine .cb (f55_spec t.p t.a t.b t.sv (BitVec.ofNat 64 (sumS s1.S)) s1.S t.m (RA.tal_ok hl1.ok hk).1 (by have := hl1.ok.sum; omega) (by rw [BitVec.toNat_ofNat]; exact Nat.mod_eq_of_lt (by have := hl1.ok.sum; omega))) body_55 ?_ (h0 := by rintro _ _ _ ⟨_, _, _, h, _⟩; exact h)
  rintro _ _ ⟨o, hq, rfl, _, rfl⟩
  refine .ap ?_
  refine .rs s1_p ?_
  refine .w (.move rfl) ?_
  refine .w (.as (v' := dgV (o.getD D0)) (.extract rfl rfl) rfl) ?_
  refine .w (.as (v' := .bool o.isSome) (.extract rfl rfl) rfl) ?_
  refine .al zero_24 fun b9 => ?_
  refine .sa sz_24 ?_
  refine .w (.assign rfl) ?_
  refine .nil (.tn (.seq (.region ?_)))
  refine .w (.move rfl) ?_
  refine .join 5 24 (.bool (decide (o = some v))) ?_ ?_
  · refine .w (.move rfl) ?_
    refine .gn (g := 10) rfl (fun hg16 hg16' => ?_) (fun hg16 hg16' => ?_)
    · refine .gt (g := 20) rfl rfl hg16 ?_
      refine .w (.as (v' := dgV (o.getD D0)) (.lda agg_24 rfl) rfl) ?_
      refine .gt (g := 20) rfl rfl hg16 ?_
      refine .w (.as (v' := dgV v) (.lda agg_24 rfl) rfl) ?_
      refine .gt (g := 20) rfl rfl hg16 ?_
      refine .w (.bin rfl rfl (eql_dig)) ?_
      refine .w (.pick1 rfl hg16 rfl) ?_
      refine .nil ?_
      refine .head () (by first | (refine ⟨by first | rfl | exact congrArg some (congrArg Value.bool (by cases o <;> simp_all; done)), ?_⟩; repeat (first | exact trivial | refine ⟨rfl, ?_⟩))) (fun _ h => h) (Picks.perm (by repeat (first | exact Picks.nil _ | apply Picks.cons | exact Pull.here _ _ | apply Pull.there))) ?_
      trivial
    · refine .gf (g := 20) rfl rfl hg16 (by decide) ?_
      refine .gf (g := 20) rfl rfl hg16 (by decide) ?_
      refine .gf (g := 20) rfl rfl hg16 (by decide) ?_
      refine .w (.pick0 rfl hg16 rfl) ?_
      refine .nil ?_
      refine .head () (by first | (refine ⟨by first | rfl | exact congrArg some (congrArg Value.bool (by cases o <;> simp_all; done)), ?_⟩; repeat (first | exact trivial | refine ⟨rfl, ?_⟩))) (fun _ h => h) (Picks.perm (by repeat (first | exact Picks.nil _ | apply Picks.cons | exact Pull.here _ _ | apply Pull.there))) ?_
      trivial
  · refine .w (.assign rfl) ?_
    refine .nil (.tn (.ret ?_))
    exact .dn [] (RA.H p s1) (res1 rfl (.tmp rfl)) ⟨s1, hl1, by rw [RA.quo_dec hq]; show _ = Value.bool (decide (Quo _ (s.abs.ta (kind, round)) v)); rw [← hl1.abs, RA.abs_ta hk]; rfl, rfl, rfl⟩

theorem f54_spec (p : Nat) (s : RA) (k : Int) :
    Spec Tryd.prog 54 #[(ptr p 0), (it k)] [Res.cells p s.cells 77] [mpR s.bd k2V blV s.dn]
      (fun r Γ' H' => r = .bool (!(s.dn.get (k, s.rd)).getD false) ∧ Γ' = [] ∧ H' = [mpR s.bd k2V blV (s.dn.put (k, s.rd) true)]) := by
  refine Spec.of_args Tryd.func54 rfl Tryd.ntmps54 (by simp) fun w => ?_
  refine .seq (.region ?_)
  refine .w (.assign rfl) ?_
  refine .nil (.tn (.seq (.region ?_)))
  refine .w (.move rfl) ?_
  refine .w (.move rfl) ?_
  refine .w (.nilCheck rfl) ?_
  refine .w (.fieldAddr fa_77_4 rfl) ?_
  refine .w (.ld one_3 rfl (hj := by first | exact RA.get_rd _ | exact RA.get_st _ | exact RA.get_me _ | exact RA.get_sh _ | exact RA.get_sv _ | exact RA.get_lkr _ | exact RA.get_vdr _ | exact RA.get_dcr _ | exact RA.get_bp _ | exact RA.get_bt _ | exact RA.get_bd _ | rfl | exact tab_get (by first | omega | (simp; omega)) | exact gm (d := 0) (by first | omega | (simp; omega)))) ?_
  refine .w (.as (v' := k2V (k, s.rd)) (.build bld_103 rfl rfl) rfl) ?_
  refine .al zero_103 fun b5 => ?_
  refine .sa sz_103 ?_
  refine .nil (.tn (.seq ?_))
  refine JC.draw (.one 0 (.one 1 (.one 2 (.one 3 (.one 4 (.one 5 (.one 6 .nil))))))) (fun i => ([] : List Nat).contains i) (fun i => ([] : List Nat).contains i) (fun i => ([0, 1, 2, 6] : List Nat).contains i) mixed (by kernel_rfl) (by decide) (by kernel_rfl) ?_
  refine .uw rfl (.move rfl) ?_
  refine .uw rfl (.nilCheck rfl) ?_
  refine .uw rfl (.fieldAddr fa_77_11 rfl) ?_
  refine .w rfl (.ld one_75 rfl (hj := by first | exact RA.get_rd _ | exact RA.get_st _ | exact RA.get_me _ | exact RA.get_sh _ | exact RA.get_sv _ | exact RA.get_lkr _ | exact RA.get_vdr _ | exact RA.get_dcr _ | exact RA.get_bp _ | exact RA.get_bt _ | exact RA.get_bd _ | rfl | exact tab_get (by first | omega | (simp; omega)) | exact gm (d := 0) (by first | omega | (simp; omega)))) ?_
  refine .w rfl (.as (v' := k2V (k, s.rd)) (.lda agg_103 rfl) rfl) ?_
  refine .w rfl (.as (v' := .bool ((s.dn.get (k, s.rd)).getD false)) (.lk (k, s.rd) Tryd.underlying75 mkey_75 zf_4) (by cases s.dn.get (k, s.rd) <;> rfl)) ?_
  refine .uw rfl (.assign rfl) ?_
  refine .nil (.tn (.seq ?_))
  refine JC.draw (.one 0 (.one 1 (.one 2 (.one 3 (.one 4 (.one 5 .nil)))))) (fun i => ([5] : List Nat).contains i) (fun i => ([5] : List Nat).contains i) (fun i => ([0, 1, 2, 3] : List Nat).contains i) mixed (by kernel_rfl) (by decide) (by kernel_rfl) ?_
  refine .uw rfl (.move rfl) ?_
  refine .uw rfl (.nilCheck rfl) ?_
  refine .uw rfl (.fieldAddr fa_77_11 rfl) ?_
  refine .uw rfl (.ld one_75 rfl (hj := by first | exact RA.get_rd _ | exact RA.get_st _ | exact RA.get_me _ | exact RA.get_sh _ | exact RA.get_sv _ | exact RA.get_lkr _ | exact RA.get_vdr _ | exact RA.get_dcr _ | exact RA.get_bp _ | exact RA.get_bt _ | exact RA.get_bd _ | rfl | exact tab_get (by first | omega | (simp; omega)) | exact gm (d := 0) (by first | omega | (simp; omega)))) ?_
  refine .w rfl (.as (v' := k2V (k, s.rd)) (.lda agg_103 rfl) rfl) ?_
  refine .mw0 rfl (.mu (k, s.rd) true Tryd.underlying75 mkey_75) ?_
  rintro _ _ _ ⟨rfl, rfl⟩
  refine kp ?_
  refine .nil (.tn (.seq (.region ?_)))
  refine .w (.move rfl) ?_
  refine .w (.not rfl) ?_
  refine .w (.assign rfl) ?_
  refine .nil (.tn (.ret ?_))
  exact .dn [] [mpR s.bd k2V blV (s.dn.put (k, s.rd) true)] (res1 rfl (.tmp rfl)) ⟨rfl, rfl, rfl⟩

theorem f45_spec (p : Nat) (s : RA) (hok : s.Ok) :
    Spec Tryd.prog 45 #[(ptr p 0)] [Res.var 0 [u64 9223372036854775808, u64 0, u64 0, u64 0]] (RA.H p s)
      (fun r Γ' H' => ∃ (s' : RA) (w : Value), s'.Ok ∧ s'.abs = (s.abs.wait).1 ∧ r = .tuple #[w, .bool (s.abs.wait).2.2] ∧ Γ' = [] ∧ H' = Res.row w (s.abs.wait).2.1.length 41 35 (acC (s.abs.wait).2.1) :: RA.H p s') := by
  refine Spec.of_args Tryd.func45 rfl Tryd.ntmps45 (by simp) fun w => ?_
  refine .seq (.region ?_)
  refine .w (.assign rfl) ?_
  refine .w (.assign rfl) ?_
  refine .nil (.tn (.seq (.seq (.region ?_))))
  refine .w (.move rfl) ?_
  refine .w (.nilCheck rfl) ?_
  refine .w (.fieldAddr fa_77_5 rfl) ?_
  refine .w (.ld one_3 rfl (hj := by first | exact RA.get_rd _ | exact RA.get_st _ | exact RA.get_me _ | exact RA.get_sh _ | exact RA.get_sv _ | exact RA.get_lkr _ | exact RA.get_vdr _ | exact RA.get_dcr _ | exact RA.get_bp _ | exact RA.get_bt _ | exact RA.get_bd _ | exact RA.pr_valid _ | exact RA.pr_good _ | rfl | exact tab_get (by first | omega | (simp; omega)) | exact gm (d := 0) (by first | omega | (simp; omega)))) ?_
  refine .w (.bin rfl rfl BinR.neq_i) ?_
  refine .w (.move rfl) ?_
  refine .gn (g := 8) rfl (fun hg9 hg9' => ?_) (fun hg9 hg9' => ?_)
  · have hno : s.abs.wait = s.abs.no := if_pos (.inl hg9')
    refine .gf (g := 9) rfl rfl hg9 (by decide) ?_
    refine .gf (g := 9) rfl rfl hg9 (by decide) ?_
    refine .gf (g := 9) rfl rfl hg9 (by decide) ?_
    refine .gf (g := 9) rfl rfl hg9 (by decide) ?_
    refine .gf (g := 9) rfl rfl hg9 (by decide) ?_
    refine .gf (g := 9) rfl rfl hg9 (by decide) ?_
    refine .gf (g := 9) rfl rfl hg9 (by decide) ?_
    refine .gf (g := 9) rfl rfl hg9 (by decide) ?_
    refine .w (.pick1 rfl hg9 rfl) ?_
    refine .w (.move rfl) ?_
    refine .gf (g := 19) rfl rfl rfl (by decide) ?_
    refine .gf (g := 19) rfl rfl rfl (by decide) ?_
    refine .gf (g := 19) rfl rfl rfl (by decide) ?_
    refine .w (.pick1 rfl rfl rfl) ?_
    refine .nil (.tn ?_)
    refine .k1 rfl rfl ?_
    refine .seq (.region ?_)
    refine .w (.assign rfl) ?_
    refine .w (.assign rfl) ?_
    refine .nil (.tn (.ret (.then_ret ?_)))
    refine .nilRow 41 35 ?_
    exact .dn [] (Res.row (.slice none 0 0) 0 41 35 [] :: RA.H p s) (res2 rfl (.tmp rfl) (.tmp rfl)) ⟨s, _, (RA.Like.refl hok).ok, by rw [hno]; exact (RA.Like.refl hok).abs, by rw [hno]; rfl, rfl, by rw [hno]; rfl⟩
  · refine .gt (g := 9) rfl rfl hg9 ?_
    refine .w (.move rfl) ?_
    refine .gt (g := 9) rfl rfl hg9 ?_
    refine .w (.move rfl) ?_
    refine .gt (g := 9) rfl rfl hg9 ?_
    refine .w (.nilCheck rfl) ?_
    refine .gt (g := 9) rfl rfl hg9 ?_
    refine .w (.fieldAddr fa_77_4 rfl) ?_
    refine .gt (g := 9) rfl rfl hg9 ?_
    refine .w (.ld one_3 rfl (hj := by first | exact RA.get_rd _ | exact RA.get_st _ | exact RA.get_me _ | exact RA.get_sh _ | exact RA.get_sv _ | exact RA.get_lkr _ | exact RA.get_vdr _ | exact RA.get_dcr _ | exact RA.get_bp _ | exact RA.get_bt _ | exact RA.get_bd _ | exact RA.pr_valid _ | exact RA.pr_good _ | rfl | exact tab_get (by first | omega | (simp; omega)) | exact gm (d := 0) (by first | omega | (simp; omega)))) ?_
    refine .gt (g := 9) rfl rfl hg9 ?_
    refine .cb (f31_spec p s hok 2 s.rd) body_31 ?_ (h0 := by rintro _ _ _ ⟨_, _, _, _, _, h, _⟩; exact h)
    rintro _ _ ⟨s1, t, hk, hl1, rfl, _, rfl⟩
    refine .ap ?_
    obtain ⟨s1_B, s1_p, _⟩ := RA.tals_split (S := s1.S) hk
    refine .us s1_p ?_
    refine .gt (g := 9) rfl rfl hg9 ?_
    refine .c (f53_spec t.p t.a t.b t.sv (BitVec.ofNat 64 (sumS s1.S)) s1.S t.m (RA.tal_ok hl1.ok hk).1 (by have := hl1.ok.sum; omega) (by rw [BitVec.toNat_ofNat]; exact Nat.mod_eq_of_lt (by have := hl1.ok.sum; omega))) body_53 ?_
    refine .rs s1_p ?_
    rw [RA.anyQ_is hl1 hk]
    refine .gt (g := 9) rfl rfl hg9 ?_
    refine .w (.not rfl) ?_
    refine .w (.pick0 rfl hg9 rfl) ?_
    refine .w (.move rfl) ?_
    refine .gn (g := 18) rfl (fun hg19 hg19' => ?_) (fun hg19 hg19' => ?_)
    · have hno : s.abs.wait = s.abs.no := if_pos (.inr (.inl hg19'))
      refine .gf (g := 19) rfl rfl hg19 (by decide) ?_
      refine .gf (g := 19) rfl rfl hg19 (by decide) ?_
      refine .gf (g := 19) rfl rfl hg19 (by decide) ?_
      refine .w (.pick1 rfl hg19 rfl) ?_
      refine .nil (.tn ?_)
      refine .k1 rfl rfl ?_
      refine .seq (.region ?_)
      refine .w (.assign rfl) ?_
      refine .w (.assign rfl) ?_
      refine .nil (.tn (.ret (.then_ret ?_)))
      refine .nilRow 41 35 ?_
      exact .dn [] (Res.row (.slice none 0 0) 0 41 35 [] :: RA.H p s1) (res2 rfl (.tmp rfl) (.tmp rfl)) ⟨s1, _, hl1.ok, by rw [hno]; exact hl1.abs, by rw [hno]; rfl, rfl, by rw [hno]; rfl⟩
    · refine .gt (g := 19) rfl rfl hg19 ?_
      refine .w (.move rfl) ?_
      refine .gt (g := 19) rfl rfl hg19 ?_
      refine .c (f54_spec p s1 5) body_54 ?_
      rw [RA.dn_is hl1]
      refine .gt (g := 19) rfl rfl hg19 ?_
      refine .w (.not rfl) ?_
      refine .w (.pick0 rfl hg19 rfl) ?_
      refine .nil (.tn ?_)
      refine .cn rfl (fun hc1 => ?_) (fun hc1 => ?_)
      · have hno : s.abs.wait = s.abs.no := if_pos (.inr (.inr hc1))
        have hl2 : s.Like (s1.mark 5) := ⟨RA.mark_ok hl1.ok _, by rw [RA.mark_abs, hl1.abs]; exact RA.done_same hc1, hl1.sv⟩
        refine .seq (.region ?_)
        refine .w (.assign rfl) ?_
        refine .w (.assign rfl) ?_
        refine .nil (.tn (.ret (.then_ret ?_)))
        refine .nilRow 41 35 ?_
        exact .dn [] (Res.row (.slice none 0 0) 0 41 35 [] :: RA.H p (s1.mark 5)) (res2 rfl (.tmp rfl) (.tmp rfl)) ⟨(s1.mark 5), _, hl2.ok, by rw [hno]; exact hl2.abs, by rw [hno]; rfl, rfl, by rw [hno]; rfl⟩
      · have hyes := AR.wait_yes (a := s.abs) hg9' hg19' hc1
        refine .skip (.tn (.seq (.region ?_)))
        refine .w (.move rfl) ?_
        refine .cb (f39_spec p (s1.mark 5) 2 (by decide) (by decide)) body_39 ?_
        rintro _ _ ⟨_, _, rfl⟩
        refine .ap ?_
        rw [show (s1.mark 5).abs.set 2 = s.abs.set 2 from by rw [RA.mark_abs, hl1.abs]; rfl]
        refine .w (.assign rfl) ?_
        refine .w (.assign rfl) ?_
        refine .nil (.tn (.ret ?_))
        exact .dn [] (Res.row _ 1 41 35 (acC (s.abs.set 2)) :: RA.H p (s1.mark 5)) (res2 rfl (.tmp rfl) (.tmp rfl)) ⟨(s1.mark 5), _, (RA.mark_ok hl1.ok _), by rw [hyes]; exact (by rw [RA.mark_abs, hl1.abs]), by rw [hyes], rfl, by rw [hyes]; rfl⟩

theorem f48_spec (p : Nat) (s : RA) (hok : s.Ok) :
    Spec Tryd.prog 48 #[(ptr p 0)] [Res.var 0 [u64 9223372036854775808, u64 0, u64 0, u64 0]] (RA.H p s)
      (fun r Γ' H' => ∃ (s' : RA) (w : Value), s'.Ok ∧ s'.abs = (s.abs.end_).1 ∧ r = .tuple #[w, .bool (s.abs.end_).2.2] ∧ Γ' = [] ∧ H' = Res.row w (s.abs.end_).2.1.length 41 35 (acC (s.abs.end_).2.1) :: RA.H p s') := by
  refine Spec.of_args Tryd.func48 rfl Tryd.ntmps48 (by simp) fun w => ?_
  refine .seq (.region ?_)
  refine .w (.assign rfl) ?_
  refine .w (.assign rfl) ?_
  refine .nil (.tn (.seq (.seq (.region ?_))))
  refine .w (.move rfl) ?_
  refine .w (.move rfl) ?_
  refine .w (.nilCheck rfl) ?_
  refine .w (.fieldAddr fa_77_4 rfl) ?_
  refine .w (.ld one_3 rfl (hj := by first | exact RA.get_rd _ | exact RA.get_st _ | exact RA.get_me _ | exact RA.get_sh _ | exact RA.get_sv _ | exact RA.get_lkr _ | exact RA.get_vdr _ | exact RA.get_dcr _ | exact RA.get_bp _ | exact RA.get_bt _ | exact RA.get_bd _ | exact RA.pr_valid _ | exact RA.pr_good _ | rfl | exact tab_get (by first | omega | (simp; omega)) | exact gm (d := 0) (by first | omega | (simp; omega)))) ?_
  refine .cb (f31_spec p s hok 3 s.rd) body_31 ?_ (h0 := by rintro _ _ _ ⟨_, _, _, _, _, h, _⟩; exact h)
  rintro _ _ ⟨s1, t, hk, hl1, rfl, _, rfl⟩
  refine .ap ?_
  obtain ⟨s1_B, s1_p, _⟩ := RA.tals_split (S := s1.S) hk
  refine .us s1_p ?_
  refine .c (f53_spec t.p t.a t.b t.sv (BitVec.ofNat 64 (sumS s1.S)) s1.S t.m (RA.tal_ok hl1.ok hk).1 (by have := hl1.ok.sum; omega) (by rw [BitVec.toNat_ofNat]; exact Nat.mod_eq_of_lt (by have := hl1.ok.sum; omega))) body_53 ?_
  refine .rs s1_p ?_
  rw [RA.anyQ_is hl1 hk]
  refine .w (.not rfl) ?_
  refine .w (.move rfl) ?_
  refine .gn (g := 11) rfl (fun hg12 hg12' => ?_) (fun hg12 hg12' => ?_)
  · have hno : s.abs.end_ = s.abs.no := if_pos (.inl hg12')
    refine .gf (g := 12) rfl rfl hg12 (by decide) ?_
    refine .gf (g := 12) rfl rfl hg12 (by decide) ?_
    refine .gf (g := 12) rfl rfl hg12 (by decide) ?_
    refine .w (.pick1 rfl hg12 rfl) ?_
    refine .nil (.tn ?_)
    refine .k1 rfl rfl ?_
    refine .seq (.region ?_)
    refine .w (.assign rfl) ?_
    refine .w (.assign rfl) ?_
    refine .nil (.tn (.ret (.then_ret ?_)))
    refine .nilRow 41 35 ?_
    exact .dn [] (Res.row (.slice none 0 0) 0 41 35 [] :: RA.H p s1) (res2 rfl (.tmp rfl) (.tmp rfl)) ⟨s1, _, hl1.ok, by rw [hno]; exact hl1.abs, by rw [hno]; rfl, rfl, by rw [hno]; rfl⟩
  · refine .gt (g := 12) rfl rfl hg12 ?_
    refine .w (.move rfl) ?_
    refine .gt (g := 12) rfl rfl hg12 ?_
    refine .c (f54_spec p s1 8) body_54 ?_
    rw [RA.dn_is hl1]
    refine .gt (g := 12) rfl rfl hg12 ?_
    refine .w (.not rfl) ?_
    refine .w (.pick0 rfl hg12 rfl) ?_
    refine .nil (.tn ?_)
    refine .cn rfl (fun hc1 => ?_) (fun hc1 => ?_)
    · have hno : s.abs.end_ = s.abs.no := if_pos (.inr hc1)
      have hl2 : s.Like (s1.mark 8) := ⟨RA.mark_ok hl1.ok _, by rw [RA.mark_abs, hl1.abs]; exact RA.done_same hc1, hl1.sv⟩
      refine .seq (.region ?_)
      refine .w (.assign rfl) ?_
      refine .w (.assign rfl) ?_
      refine .nil (.tn (.ret (.then_ret ?_)))
      refine .nilRow 41 35 ?_
      exact .dn [] (Res.row (.slice none 0 0) 0 41 35 [] :: RA.H p (s1.mark 8)) (res2 rfl (.tmp rfl) (.tmp rfl)) ⟨(s1.mark 8), _, hl2.ok, by rw [hno]; exact hl2.abs, by rw [hno]; rfl, rfl, by rw [hno]; rfl⟩
    · have hyes := AR.end_yes (a := s.abs) hg12' hc1
      refine .skip (.tn (.seq (.region ?_)))
      refine .w (.move rfl) ?_
      refine .cb (f39_spec p (s1.mark 8) 3 (by decide) (by decide)) body_39 ?_
      rintro _ _ ⟨_, _, rfl⟩
      refine .ap ?_
      rw [show (s1.mark 8).abs.set 3 = s.abs.set 3 from by rw [RA.mark_abs, hl1.abs]; rfl]
      refine .w (.assign rfl) ?_
      refine .w (.assign rfl) ?_
      refine .nil (.tn (.ret ?_))
      exact .dn [] (Res.row _ 1 41 35 (acC (s.abs.set 3)) :: RA.H p (s1.mark 8)) (res2 rfl (.tmp rfl) (.tmp rfl)) ⟨(s1.mark 8), _, (RA.mark_ok hl1.ok _), by rw [hyes]; exact (by rw [RA.mark_abs, hl1.abs]), by rw [hyes], rfl, by rw [hyes]; rfl⟩

theorem f47_spec (p : Nat) (s : RA) (hok : s.Ok) :
    Spec Tryd.prog 47 #[(ptr p 0)] [Res.var 0 [u64 9223372036854775808, u64 0, u64 0, u64 0]] (RA.H p s)
      (fun r Γ' H' => ∃ (s' : RA) (w : Value), s'.Ok ∧ s'.abs = (s.abs.pass).1 ∧ r = .tuple #[w, .bool (s.abs.pass).2.2] ∧ Γ' = [] ∧ H' = Res.row w (s.abs.pass).2.1.length 41 35 (acC (s.abs.pass).2.1) :: RA.H p s') := by
  refine Spec.of_args Tryd.func47 rfl Tryd.ntmps47 (by simp) fun w => ?_
  refine .seq (.region ?_)
  refine .w (.assign rfl) ?_
  refine .w (.assign rfl) ?_
  refine .nil (.tn (.seq (.seq (.region ?_))))
  refine .w (.move rfl) ?_
  refine .w (.nilCheck rfl) ?_
  refine .w (.fieldAddr fa_77_5 rfl) ?_
  refine .w (.ld one_3 rfl (hj := by first | exact RA.get_rd _ | exact RA.get_st _ | exact RA.get_me _ | exact RA.get_sh _ | exact RA.get_sv _ | exact RA.get_lkr _ | exact RA.get_vdr _ | exact RA.get_dcr _ | exact RA.get_bp _ | exact RA.get_bt _ | exact RA.get_bd _ | exact RA.pr_valid _ | exact RA.pr_good _ | rfl | exact tab_get (by first | omega | (simp; omega)) | exact gm (d := 0) (by first | omega | (simp; omega)))) ?_
  refine .w (.bin rfl rfl BinR.neq_i) ?_
  refine .w (.move rfl) ?_
  refine .gn (g := 8) rfl (fun hg9 hg9' => ?_) (fun hg9 hg9' => ?_)
  · have hno : s.abs.pass = s.abs.no := if_pos (.inl hg9')
    refine .gf (g := 9) rfl rfl hg9 (by decide) ?_
    refine .gf (g := 9) rfl rfl hg9 (by decide) ?_
    refine .gf (g := 9) rfl rfl hg9 (by decide) ?_
    refine .gf (g := 9) rfl rfl hg9 (by decide) ?_
    refine .gf (g := 9) rfl rfl hg9 (by decide) ?_
    refine .gf (g := 9) rfl rfl hg9 (by decide) ?_
    refine .gf (g := 9) rfl rfl hg9 (by decide) ?_
    refine .gf (g := 9) rfl rfl hg9 (by decide) ?_
    refine .w (.pick1 rfl hg9 rfl) ?_
    refine .nil (.tn ?_)
    refine .k1 rfl rfl ?_
    refine .seq (.region ?_)
    refine .w (.assign rfl) ?_
    refine .w (.assign rfl) ?_
    refine .nil (.tn (.ret (.then_ret ?_)))
    refine .nilRow 41 35 ?_
    exact .dn [] (Res.row (.slice none 0 0) 0 41 35 [] :: RA.H p s) (res2 rfl (.tmp rfl) (.tmp rfl)) ⟨s, _, (RA.Like.refl hok).ok, by rw [hno]; exact (RA.Like.refl hok).abs, by rw [hno]; rfl, rfl, by rw [hno]; rfl⟩
  · refine .gt (g := 9) rfl rfl hg9 ?_
    refine .w (.move rfl) ?_
    refine .gt (g := 9) rfl rfl hg9 ?_
    refine .w (.move rfl) ?_
    refine .gt (g := 9) rfl rfl hg9 ?_
    refine .w (.nilCheck rfl) ?_
    refine .gt (g := 9) rfl rfl hg9 ?_
    refine .w (.fieldAddr fa_77_4 rfl) ?_
    refine .gt (g := 9) rfl rfl hg9 ?_
    refine .w (.ld one_3 rfl (hj := by first | exact RA.get_rd _ | exact RA.get_st _ | exact RA.get_me _ | exact RA.get_sh _ | exact RA.get_sv _ | exact RA.get_lkr _ | exact RA.get_vdr _ | exact RA.get_dcr _ | exact RA.get_bp _ | exact RA.get_bt _ | exact RA.get_bd _ | exact RA.pr_valid _ | exact RA.pr_good _ | rfl | exact tab_get (by first | omega | (simp; omega)) | exact gm (d := 0) (by first | omega | (simp; omega)))) ?_
    refine .gt (g := 9) rfl rfl hg9 ?_
    refine .w (.as (v' := dgV D0) (.build bld_24 rfl rfl) rfl) ?_
    refine .gt (g := 9) rfl rfl hg9 ?_
    refine .cb (f51_spec p s hok 2 s.rd D0) body_51 ?_ (h0 := by rintro _ _ _ ⟨_, _, _, h, _⟩; exact h)
    rintro _ _ ⟨s1, hl1, rfl, _, rfl⟩
    refine .ap ?_
    refine .gt (g := 9) rfl rfl hg9 ?_
    refine .w (.not rfl) ?_
    refine .w (.pick0 rfl hg9 rfl) ?_
    refine .nil (.tn ?_)
    refine .cn rfl (fun hc1 => ?_) (fun hc1 => ?_)
    · have hno : s.abs.pass = s.abs.no := if_pos (.inr hc1)
      refine .seq (.region ?_)
      refine .w (.assign rfl) ?_
      refine .w (.assign rfl) ?_
      refine .nil (.tn (.ret (.then_ret ?_)))
      refine .nilRow 41 35 ?_
      exact .dn [] (Res.row (.slice none 0 0) 0 41 35 [] :: RA.H p s1) (res2 rfl (.tmp rfl) (.tmp rfl)) ⟨s1, _, hl1.ok, by rw [hno]; exact hl1.abs, by rw [hno]; rfl, rfl, by rw [hno]; rfl⟩
    · have hyes := AR.pass_yes (a := s.abs) hg9' hc1
      refine .skip (.tn (.seq (.region ?_)))
      refine .w (.move rfl) ?_
      refine .w (.as (v' := dgV D0) (.build bld_24 rfl rfl) rfl) ?_
      refine .cb (f33_spec p s1 3 D0) body_33 ?_
      rintro _ _ ⟨_, _, rfl⟩
      refine .ap ?_
      rw [hl1.abs]
      refine .w (.assign rfl) ?_
      refine .w (.assign rfl) ?_
      refine .nil (.tn (.ret ?_))
      exact .dn [] (Res.row _ 1 41 35 (acC (s.abs.vote 3 D0).2) :: RA.H p (s1.setSt 3)) (res2 rfl (.tmp rfl) (.tmp rfl)) ⟨(s1.setSt 3), _, (RA.st_ok hl1.ok (by decide) (by decide)), by rw [hyes]; exact (by show (s1.abs.vote 3 D0).1 = _; rw [hl1.abs]), by rw [hyes], rfl, by rw [hyes]; rfl⟩
end Go.Proofs.YtncececcopalgaaDoor
