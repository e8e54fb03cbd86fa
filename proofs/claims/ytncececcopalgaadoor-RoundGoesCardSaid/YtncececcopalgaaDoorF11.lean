/- Walks: decisions; who was heard, and the rule of later rounds. -/
import Derived.Test.YtncececcopalgaaDoorF6
namespace Go.Proofs.YtncececcopalgaaDoor
open Go.RowKit
set_option maxRecDepth 100000
set_option linter.unusedVariables false
set_option linter.unusedSimpArgs false
theorem f42_spec (p : Nat) (s : RA) (hok : s.Ok) :
    Spec Tryd.prog 42 #[(ptr p 0)] [Res.var 0 [u64 9223372036854775808, u64 0, u64 0, u64 0]] (RA.H p s)
      (fun r Γ' H' => ∃ (s' : RA) (w : Value), s'.Ok ∧ s'.abs = (s.abs.decideR).1 ∧ r = .tuple #[w, .bool (s.abs.decideR).2.2] ∧ Γ' = [] ∧ H' = Res.row w (s.abs.decideR).2.1.length 41 35 (acC (s.abs.decideR).2.1) :: RA.H p s') := by
  refine Spec.of_args Tryd.func42 rfl Tryd.ntmps42 (by simp) fun w => ?_
  refine .seq (.region ?_)
  refine .w (.assign rfl) ?_
  refine .w (.assign rfl) ?_
  refine .nil (.tn (.seq (.seq (.region ?_))))
  refine .w (.move rfl) ?_
  refine .nil (.tn (.block ?_))
  refine .lp (ι := Nat × RA) (fun x => x.1 ≤ 61 ∧ s.Like x.2 ∧ ∀ j : Nat, j < x.1 → s.abs.decideP (j : Int) = false) (fun T x => (7, it (x.1 : Int)) :: T) (fun T _ => T) (fun T x => Res.cells p x.2.cells 77 :: Res.row x.2.sv x.2.S.length 48 1 (x.2.S.map u64) :: mpR x.2.bp itK prV x.2.pr :: mpR x.2.bt k2V tpV x.2.ta :: mpR x.2.bd k2V blV x.2.dn :: Res.sep (tals x.2.S x.2.ta.es) :: T) (fun x => 61 - x.1) (0, s) [0] ?_ (fun x hx => ?_)
  · exact ⟨Nat.zero_le _, RA.Like.refl hok, fun j hj => absurd hj (Nat.not_lt_zero _)⟩
  obtain ⟨k, s1⟩ := x
  obtain ⟨hk, hl1, hnj⟩ := hx
  dsimp only at hk hl1 hnj ⊢
  refine .seq (.region ?_)
  refine .w (.bin rfl rfl BinR.lss_i) ?_
  refine .nil (.tn (.seq ?_))
  refine .cn rfl (fun hc1 => ?_) (fun hc1 => ?_)
  · skip
    refine .skip (.tn (.seq (.block (.seq (.region ?_)))))
    refine .w (.move rfl) ?_
    refine .w (.assign rfl) ?_
    refine .nil (.tn (.seq (.region ?_)))
    refine .w (.move rfl) ?_
    refine .w (.nilCheck rfl) ?_
    refine .w (.fieldAddr fa_77_9 rfl) ?_
    refine .w (.ld one_73 rfl (hj := by first | exact RA.get_rd _ | exact RA.get_st _ | exact RA.get_me _ | exact RA.get_sh _ | exact RA.get_sv _ | exact RA.get_lkr _ | exact RA.get_vdr _ | exact RA.get_dcr _ | exact RA.get_bp _ | exact RA.get_bt _ | exact RA.get_bd _ | exact RA.pr_valid _ | exact RA.pr_good _ | rfl | exact tab_get (by first | omega | (simp; omega)) | exact gm (d := 0) (by first | omega | (simp; omega)))) ?_
    refine .w (.move rfl) ?_
    refine .w (.as (v' := .tuple #[prV ((s1.pr.get (k : Int)).getD Prp0), .bool (s1.pr.get (k : Int)).isSome]) (.lk2 (k : Int) Tryd.underlying73 mkey_73 zf_100) (by cases s1.pr.get (k : Int) <;> rfl)) ?_
    refine .w (.move rfl) ?_
    refine .w (.as (v' := prV ((s1.pr.get (k : Int)).getD Prp0)) (.extract rfl rfl) rfl) ?_
    refine .w (.as (v' := .bool (s1.pr.get (k : Int)).isSome) (.extract rfl rfl) rfl) ?_
    refine .al zero_100 fun b5 => ?_
    refine .sa sz_100 ?_ (h1 := (Prp.one _))
    refine .w (.assign rfl) ?_
    refine .nil (.tn (.seq (.region ?_)))
    refine .w (.move rfl) ?_
    refine .w (.move rfl) ?_
    refine .gn (g := 6) rfl (fun hg21 hg21' => ?_) (fun hg21 hg21' => ?_)
    · obtain ⟨P, hP⟩ := Option.isSome_iff_exists.1 hg21'
      have hPg : ((s1.pr.get (k : Int)).getD Prp0) = P := by rw [hP]; rfl
      rw [hPg]
      have hP' : s.abs.pr (k : Int) = some P := by rw [← hl1.abs]; exact hP
      refine .gt (g := 20) rfl rfl hg21 ?_
      refine .w (.move rfl) ?_
      refine .gt (g := 20) rfl rfl hg21 ?_
      refine .w (.move rfl) ?_
      refine .gt (g := 20) rfl rfl hg21 ?_
      refine .w (.fieldAddr fa_100_0 rfl) ?_
      refine .gt (g := 20) rfl rfl hg21 ?_
      refine .w (.as (v' := dgV P.v) (.lda agg_24 rfl) (congrArg (fun l : List Value => Value.agg l.toArray) (RA.pr_v _))) ?_
      refine .gt (g := 20) rfl rfl hg21 ?_
      refine .cb (f51_spec p s1 hl1.ok 3 (k : Int) P.v) body_51 ?_ (h0 := by rintro _ _ _ ⟨_, _, _, h, _⟩; exact h)
      rintro _ _ ⟨s2, hl2, rfl, _, rfl⟩
      refine .ap ?_
      refine .w (.pick1 rfl hg21 rfl) ?_
      refine .nil (.tn ?_)
      refine .cn rfl (fun hc2 => ?_) (fun hc2 => ?_)
      · have hyes := AR.decide_yes (a := s.abs) (by omega) hnj hP' (by rw [← hl1.abs]; exact hc2)
        refine .seq (.region ?_)
        refine .w (.move rfl) ?_
        refine .w (.fieldAddr fa_100_0 rfl) ?_
        refine .w (.as (v' := dgV P.v) (.lda agg_24 rfl) (congrArg (fun l : List Value => Value.agg l.toArray) (RA.pr_v _))) ?_
        refine .w (.move rfl) ?_
        refine .w (.as (v' := hdV ⟨P.v, (k : Int)⟩) (.bd bld_71) (congrArg (fun l : List Value => Value.agg l.toArray) (hd2 _ _))) ?_
        refine .w (.nilCheck rfl) ?_
        refine .w (.fieldAddr fa_77_8 rfl) ?_
        refine .so sz_71 ?_ (h1 := (Held.one _))
        rw [RA.set_dc]
        refine .nil (.tn (.seq (.region ?_)))
        refine .w (.move rfl) ?_
        refine .w (.fieldAddr fa_100_0 rfl) ?_
        refine .w (.as (v' := dgV P.v) (.lda agg_24 rfl) (congrArg (fun l : List Value => Value.agg l.toArray) (RA.pr_v _))) ?_
        refine .w (.as (v' := acV ⟨7, (k : Int), P.v, 0⟩) (.bd bld_41) (congrArg (fun l : List Value => Value.agg l.toArray) (act3 _ _ _))) ?_
        refine .ls Tryd.underlying31 info_41 (fun v38 => ?_) (hsz := (by intro v hv; rw [List.mem_singleton.1 hv]; exact acV_size _))
        refine .w (.assign rfl) ?_
        refine .w (.assign rfl) ?_
        refine .nil (.tn (.ret (.block_ret (.then_ret (.then_ret (.block_ret (.then_ret ?_)))))))
        exact .dn [] (Res.row _ 1 41 35 (acC [⟨7, (k : Int), P.v, 0⟩]) :: RA.H p (s2.setDc ⟨P.v, (k : Int)⟩)) (res2 rfl (.tmp rfl) (.tmp rfl)) ⟨(s2.setDc ⟨P.v, (k : Int)⟩), _, (RA.dc_ok (hl1.trans hl2).ok _), by rw [hyes]; exact (by rw [show (s2.setDc ⟨P.v, (k : Int)⟩).abs = { s2.abs with dc := ⟨P.v, (k : Int)⟩ } from rfl, (hl1.trans hl2).abs]), by rw [hyes], rfl, by rw [hyes]; rfl⟩
      · have hn : s.abs.decideP (k : Int) = false := by rw [AR.decideP_some hP', ← hl1.abs]; exact hc2
        refine .skip (.block_normal (.tn (.region ?_)))
        refine .w (.asI ((k + 1 : Nat) : Int) (.bin rfl rfl (BinR.add_i (by first | (constructor <;> omega) | (constructor <;> simp <;> omega))))) ?_
        refine .w (.move rfl) ?_
        refine .nil ?_
        first | refine .hd (k + 1, s2) ?_ | refine .hd (k + 1, s1) ?_
        exact ⟨⟨by dsimp only; omega, by first | exact hl1.trans hl2 | exact hl1, fun j hj => by
          rcases Nat.lt_succ_iff_lt_or_eq.1 hj with h | h
          · exact hnj j h
          · subst h; exact hn⟩, by dsimp only; omega⟩
    · have hP : s1.pr.get (k : Int) = none := by have h := hg21'; cases hq : s1.pr.get (k : Int) with
        | none => rfl
        | some _ => rw [hq] at h; cases h
      have hn : s.abs.decideP (k : Int) = false := AR.decideP_none (by rw [← hl1.abs]; exact hP)
      refine .gf (g := 20) rfl rfl hg21 (by decide) ?_
      refine .gf (g := 20) rfl rfl hg21 (by decide) ?_
      refine .gf (g := 20) rfl rfl hg21 (by decide) ?_
      refine .gf (g := 20) rfl rfl hg21 (by decide) ?_
      refine .gf (g := 20) rfl rfl hg21 (by decide) ?_
      refine .w (.pick0 rfl hg21 rfl) ?_
      refine .nil (.tn ?_)
      refine .k0 rfl rfl ?_
      refine .skip (.block_normal (.tn (.region ?_)))
      refine .w (.asI ((k + 1 : Nat) : Int) (.bin rfl rfl (BinR.add_i (by first | (constructor <;> omega) | (constructor <;> simp <;> omega))))) ?_
      refine .w (.move rfl) ?_
      refine .nil ?_
      first | refine .hd (k + 1, s2) ?_ | refine .hd (k + 1, s1) ?_
      exact ⟨⟨by dsimp only; omega, by first | exact hl1.trans hl2 | exact hl1, fun j hj => by
        rcases Nat.lt_succ_iff_lt_or_eq.1 hj with h | h
        · exact hnj j h
        · subst h; exact hn⟩, by dsimp only; omega⟩
  · have hno := AR.decide_no (a := s.abs) (fun j hj => hnj j (by omega))
    refine .exit (.then_exit (.then_exit (.block_exit (.tn (.seq (.region ?_))))))
    refine .w (.assign rfl) ?_
    refine .w (.assign rfl) ?_
    refine .nil (.tn (.ret ?_))
    refine .nilRow 41 35 ?_
    exact .dn [] (Res.row (.slice none 0 0) 0 41 35 [] :: RA.H p s1) (res2 rfl (.tmp rfl) (.tmp rfl)) ⟨s1, _, hl1.ok, by rw [hno]; exact hl1.abs, by rw [hno]; rfl, rfl, by rw [hno]; rfl⟩

theorem f52_spec (p : Nat) (s : RA) (hok : s.Ok) (round : Int) :
    Spec Tryd.prog 52 #[(ptr p 0), (it round)] [Res.var 0 [u64 9223372036854775808, u64 0, u64 0, u64 0]] (RA.H p s)
      (fun r Γ' H' => ∃ s' : RA,  s.Like s' ∧ r = u64 (BitVec.ofNat 64 (s.abs.heard round)) ∧ Γ' = [] ∧ H' = RA.H p s') := by
  refine Spec.of_args Tryd.func52 rfl Tryd.ntmps52 (by simp) fun w => ?_
  have hmax := hok.l2
  refine .seq (.region ?_)
  refine .w (.assign rfl) ?_
  refine .nil (.tn (.seq (.region ?_)))
  refine .w (.assign rfl) ?_
  refine .nil (.tn (.seq (.region ?_)))
  refine .w (.move rfl) ?_
  refine .w (.nilCheck rfl) ?_
  refine .w (.fieldAddr fa_77_9 rfl) ?_
  refine .w (.ld one_73 rfl (hj := by first | exact RA.get_rd _ | exact RA.get_st _ | exact RA.get_me _ | exact RA.get_sh _ | exact RA.get_sv _ | exact RA.get_lkr _ | exact RA.get_vdr _ | exact RA.get_dcr _ | exact RA.get_bp _ | exact RA.get_bt _ | exact RA.get_bd _ | rfl | exact tab_get (by first | omega | (simp; omega)) | exact gm (d := 0) (by first | omega | (simp; omega)))) ?_
  refine .w (.move rfl) ?_
  refine .w (.as (v' := .tuple #[prV ((s.pr.get round).getD Prp0), .bool (s.pr.get round).isSome]) (.lk2 round Tryd.underlying73 mkey_73 zf_100) (by cases s.pr.get round <;> rfl)) ?_
  refine .w (.move rfl) ?_
  refine .w (.as (v' := prV ((s.pr.get round).getD Prp0)) (.extract rfl rfl) rfl) ?_
  refine .w (.as (v' := .bool (s.abs.pr round).isSome) (.extract rfl rfl) rfl) ?_
  refine .al zero_100 fun b6 => ?_
  refine .sa sz_100 ?_ (h1 := (Prp.one _))
  refine .w (.assign rfl) ?_
  refine .nil (.tn (.seq (.seq (.region ?_))))
  refine .w (.move rfl) ?_
  refine .w (.nilCheck rfl) ?_
  refine .w (.fieldAddr fa_77_0 rfl) ?_
  refine .w (.ld one_22 rfl (hj := by first | exact RA.get_rd _ | exact RA.get_st _ | exact RA.get_me _ | exact RA.get_sh _ | exact RA.get_sv _ | exact RA.get_lkr _ | exact RA.get_vdr _ | exact RA.get_dcr _ | exact RA.get_bp _ | exact RA.get_bt _ | exact RA.get_bd _ | rfl | exact tab_get (by first | omega | (simp; omega)) | exact gm (d := 0) (by first | omega | (simp; omega)))) ?_
  refine .w (.len Tryd.underlying22 rfl) ?_
  refine .w (.move rfl) ?_
  refine .nil (.tn (.block ?_))
  refine .lp (ι := Nat × RA) (fun x => x.1 ≤ s.S.length ∧ s.Like x.2) (fun T x => (5, u64 (BitVec.ofNat 64 (s.abs.heardK round x.1))) :: (28, it (x.1 : Int)) :: T) (fun T _ => T) (fun T x => Res.cells p x.2.cells 77 :: Res.row x.2.sv x.2.S.length 48 1 (x.2.S.map u64) :: mpR x.2.bp itK prV x.2.pr :: mpR x.2.bt k2V tpV x.2.ta :: mpR x.2.bd k2V blV x.2.dn :: Res.sep (tals x.2.S x.2.ta.es) :: T) (fun x => s.S.length - x.1) (0, s) [0, 1, 4, 7, 26, 27, 67] ?_ (fun x hx => ?_)
  · exact ⟨Nat.zero_le _, RA.Like.refl hok⟩
  obtain ⟨i, s1⟩ := x
  obtain ⟨hi, hl1⟩ := hx
  dsimp only at hi hl1 ⊢
  rw [← hl1.sv]
  have hSl : s1.S.length = s.S.length := congrArg List.length hl1.S
  refine .seq (.region ?_)
  refine .w (.bin rfl rfl BinR.lss_i) ?_
  refine .nil (.tn (.seq ?_))
  refine .cn rfl (fun hc1 => ?_) (fun hc1 => ?_)
  · skip
    refine .skip (.tn (.seq (.block (.seq (.region ?_)))))
    refine .w (.move rfl) ?_
    refine .w (.ix1 Tryd.underlying22 sz_48 rfl rfl) ?_
    refine .w (.as (v' := u64 (s.S.getD i 0)) (.ld one_48 rfl (hj := by first | exact RA.get_rd _ | exact RA.get_st _ | exact RA.get_me _ | exact RA.get_sh _ | exact RA.get_sv _ | exact RA.get_lkr _ | exact RA.get_vdr _ | exact RA.get_dcr _ | exact RA.get_bp _ | exact RA.get_bt _ | exact RA.get_bd _ | rfl | exact tab_get (by first | omega | (simp; omega)) | exact gm (d := 0) (by first | omega | (simp; omega)))) (by rw [hl1.S])) ?_
    refine .w (.assign rfl) ?_
    refine .w (.assign rfl) ?_
    refine .nil (.tn (.seq (.region ?_)))
    refine .w (.move rfl) ?_
    refine .w (.move rfl) ?_
    refine .cb (f31_spec p s1 hl1.ok 2 round) body_31 ?_ (h0 := by rintro _ _ _ ⟨_, _, _, _, _, h, _⟩; exact h)
    rintro _ _ ⟨s2, t2, hk2, hl2, rfl, _, rfl⟩
    refine .ap ?_
    obtain ⟨s2_B, s2_p, _⟩ := RA.tals_split (S := s2.S) hk2
    refine .us s2_p ?_
    refine .w (.move rfl) ?_
    refine .c (f56_spec t2.p t2.a t2.b t2.sv (BitVec.ofNat 64 (sumS s2.S)) s2.S t2.m (i : Int)) body_56 ?_
    refine .rs s2_p ?_
    refine .w (.move rfl) ?_
    refine .w (.as (v' := dgV ((t2.m.get (i : Int)).getD D0)) (.extract rfl rfl) rfl) ?_
    refine .w (.as (v' := .bool (s.abs.ta (2, round) (i : Int)).isSome) (.extract rfl rfl) (by rw [← (hl1.trans hl2).abs, RA.abs_ta hk2]; rfl)) ?_
    refine .al zero_24 fun b10 => ?_
    refine .sa sz_24 ?_ (h1 := (dg_one _))
    refine .w (.assign rfl) ?_
    refine .nil (.tn (.seq (.region ?_)))
    refine .w (.move rfl) ?_
    refine .w (.move rfl) ?_
    refine .cb (f31_spec p s2 hl2.ok 3 round) body_31 ?_ (h0 := by rintro _ _ _ ⟨_, _, _, _, _, h, _⟩; exact h)
    rintro _ _ ⟨s3, t3, hk3, hl3, rfl, _, rfl⟩
    refine .ap ?_
    obtain ⟨s3_B, s3_p, _⟩ := RA.tals_split (S := s3.S) hk3
    refine .us s3_p ?_
    refine .w (.move rfl) ?_
    refine .c (f56_spec t3.p t3.a t3.b t3.sv (BitVec.ofNat 64 (sumS s3.S)) s3.S t3.m (i : Int)) body_56 ?_
    refine .rs s3_p ?_
    refine .w (.move rfl) ?_
    refine .w (.as (v' := dgV ((t3.m.get (i : Int)).getD D0)) (.extract rfl rfl) rfl) ?_
    refine .w (.as (v' := .bool (s.abs.ta (3, round) (i : Int)).isSome) (.extract rfl rfl) (by rw [← (hl1.trans (hl2.trans hl3)).abs, RA.abs_ta hk3]; rfl)) ?_
    refine .al zero_24 fun b12 => ?_
    refine .sa sz_24 ?_ (h1 := (dg_one _))
    refine .w (.assign rfl) ?_
    refine .nil (.tn (.seq (.region ?_)))
    refine .w (.move rfl) ?_
    refine .w (.move rfl) ?_
    refine .join 12 62 (.bool (s.abs.hq round i)) ?_ ?_
    · refine .gn (g := 11) rfl (fun hg51 hg51' => ?_) (fun hg51 hg51' => ?_)
      · refine .gf (g := 50) rfl rfl hg51 (by decide) ?_
        refine .w (.pick1 rfl hg51 rfl) ?_
        refine .w (.move rfl) ?_
        refine .gf (g := 53) rfl rfl rfl (by decide) ?_
        refine .gf (g := 53) rfl rfl rfl (by decide) ?_
        refine .gu (g := 55) rfl rfl (by decide) ?_
        refine .gu (g := 55) rfl rfl (by decide) ?_
        refine .gu (g := 55) rfl rfl (by decide) ?_
        refine .gu (g := 55) rfl rfl (by decide) ?_
        refine .gu (g := 55) rfl rfl (by decide) ?_
        refine .gf (g := 53) rfl rfl rfl (by decide) ?_
        refine .w (.pick1 rfl rfl rfl) ?_
        refine .nil ?_
        refine .head () (by first | (refine ⟨by first | rfl | exact congrArg some (congrArg Value.bool (by simp_all [AR.hq])), ?_⟩; repeat (first | exact trivial | refine ⟨rfl, ?_⟩))) (fun _ h => h) (Picks.perm (by repeat (first | exact Picks.nil _ | apply Picks.cons | exact Pull.here _ _ | apply Pull.there))) ?_
        trivial
      · refine .gt (g := 50) rfl rfl hg51 ?_
        refine .w (.move rfl) ?_
        refine .w (.pick0 rfl hg51 rfl) ?_
        refine .w (.move rfl) ?_
        refine .gn (g := 52) rfl (fun hg54 hg54' => ?_) (fun hg54 hg54' => ?_)
        · refine .gf (g := 53) rfl rfl hg54 (by decide) ?_
          refine .gf (g := 53) rfl rfl hg54 (by decide) ?_
          refine .gu (g := 55) rfl rfl (by decide) ?_
          refine .gu (g := 55) rfl rfl (by decide) ?_
          refine .gu (g := 55) rfl rfl (by decide) ?_
          refine .gu (g := 55) rfl rfl (by decide) ?_
          refine .gu (g := 55) rfl rfl (by decide) ?_
          refine .gf (g := 53) rfl rfl hg54 (by decide) ?_
          refine .w (.pick1 rfl hg54 rfl) ?_
          refine .nil ?_
          refine .head () (by first | (refine ⟨by first | rfl | exact congrArg some (congrArg Value.bool (by simp_all [AR.hq])), ?_⟩; repeat (first | exact trivial | refine ⟨rfl, ?_⟩))) (fun _ h => h) (Picks.perm (by repeat (first | exact Picks.nil _ | apply Picks.cons | exact Pull.here _ _ | apply Pull.there))) ?_
          trivial
        · refine .gt (g := 53) rfl rfl hg54 ?_
          refine .w (.move rfl) ?_
          refine .gt (g := 53) rfl rfl hg54 ?_
          refine .w (.move rfl) ?_
          refine .gn (g := 7) rfl (fun hg56 hg56' => ?_) (fun hg56 hg56' => ?_)
          · refine .gt (g := 55) rfl rfl hg56 ?_
            refine .w (.move rfl) ?_
            refine .gt (g := 55) rfl rfl hg56 ?_
            refine .w (.move rfl) ?_
            refine .gt (g := 55) rfl rfl hg56 ?_
            refine .w (.move rfl) ?_
            refine .gt (g := 55) rfl rfl hg56 ?_
            refine .c (f21_spec p s3 hl3.ok round) body_21 ?_
            rw [(hl1.trans (hl2.trans hl3)).abs]
            refine .gt (g := 55) rfl rfl hg56 ?_
            refine .w (.bin rfl rfl BinR.eql_i) ?_
            refine .gt (g := 53) rfl rfl hg54 ?_
            refine .w (.pick1 rfl hg56 rfl) ?_
            refine .w (.pick0 rfl hg54 rfl) ?_
            refine .nil ?_
            refine .head () (by first | (refine ⟨by first | rfl | exact congrArg some (congrArg Value.bool (by simp_all [AR.hq])), ?_⟩; repeat (first | exact trivial | refine ⟨rfl, ?_⟩))) (fun _ h => h) (Picks.perm (by repeat (first | exact Picks.nil _ | apply Picks.cons | exact Pull.here _ _ | apply Pull.there))) ?_
            trivial
          · refine .gf (g := 55) rfl rfl hg56 (by decide) ?_
            refine .gf (g := 55) rfl rfl hg56 (by decide) ?_
            refine .gf (g := 55) rfl rfl hg56 (by decide) ?_
            refine .gf (g := 55) rfl rfl hg56 (by decide) ?_
            refine .gf (g := 55) rfl rfl hg56 (by decide) ?_
            refine .gt (g := 53) rfl rfl hg54 ?_
            refine .w (.pick0 rfl hg56 rfl) ?_
            refine .w (.pick0 rfl hg54 rfl) ?_
            refine .nil ?_
            refine .head () (by first | (refine ⟨by first | rfl | exact congrArg some (congrArg Value.bool (by simp_all [AR.hq])), ?_⟩; repeat (first | exact trivial | refine ⟨rfl, ?_⟩))) (fun _ h => h) (Picks.perm (by repeat (first | exact Picks.nil _ | apply Picks.cons | exact Pull.here _ _ | apply Pull.there))) ?_
            trivial
    · refine .nil (.tn ?_)
      refine .cn rfl (fun hc2 => ?_) (fun hc2 => ?_)
      · have hkk : BitVec.ofNat 64 (s.abs.heardK round i) + s.S.getD i 0 = BitVec.ofNat 64 (s.abs.heardK round (i + 1)) := by rw [AR.heardK_succ, if_pos hc2, BitVec.ofNat_add]; simp [RA.abs]
        refine .region ?_
        refine .w (.move rfl) ?_
        refine .w (.move rfl) ?_
        refine .w (.as (v' := u64 (BitVec.ofNat 64 (s.abs.heardK round (i + 1)))) (.bin rfl rfl (BinR.add_u64)) (congrArg u64 hkk)) ?_
        refine .w (.assign rfl) ?_
        refine .nil (.block_normal (.tn (.region ?_)))
        refine .w (.asI ((i + 1 : Nat) : Int) (.bin rfl rfl (BinR.add_i (by first | (constructor <;> omega) | (constructor <;> simp <;> omega))))) ?_
        refine .w (.move rfl) ?_
        refine .nil ?_
        rw [hl1.sv]
        refine .hd (i + 1, s3) ?_
        exact ⟨⟨by dsimp only; omega, hl1.trans (hl2.trans hl3)⟩, by dsimp only; omega⟩
      · have hk1 : s.abs.heardK round (i + 1) = s.abs.heardK round i := by rw [AR.heardK_succ, if_neg (by rw [hc2]; decide)]; rfl
        rw [← hk1]
        refine .skip (.block_normal (.tn (.region ?_)))
        refine .w (.asI ((i + 1 : Nat) : Int) (.bin rfl rfl (BinR.add_i (by first | (constructor <;> omega) | (constructor <;> simp <;> omega))))) ?_
        refine .w (.move rfl) ?_
        refine .nil ?_
        rw [hl1.sv]
        refine .hd (i + 1, s3) ?_
        exact ⟨⟨by dsimp only; omega, hl1.trans (hl2.trans hl3)⟩, by dsimp only; omega⟩
  · have hi' : i = s.S.length := by omega
    subst hi'
    refine .exit (.then_exit (.then_exit (.block_exit (.tn (.seq (.region ?_))))))
    refine .w (.move rfl) ?_
    refine .w (.assign rfl) ?_
    refine .nil (.tn (.ret ?_))
    exact .dn [] (RA.H p s1) (res1 rfl (.tmp rfl)) ⟨s1, hl1, rfl, rfl, rfl⟩

theorem f43_spec (p : Nat) (s : RA) (hok : s.Ok) :
    Spec Tryd.prog 43 #[(ptr p 0)] [Res.var 0 [u64 9223372036854775808, u64 0, u64 0, u64 0]] (RA.H p s)
      (fun r Γ' H' => ∃ (s' : RA) (w : Value), s'.Ok ∧ s'.abs = (s.abs.skip).1 ∧ r = .tuple #[w, .bool (s.abs.skip).2.2] ∧ Γ' = [] ∧ H' = Res.row w (s.abs.skip).2.1.length 41 35 (acC (s.abs.skip).2.1) :: RA.H p s') := by
  refine Spec.of_args Tryd.func43 rfl Tryd.ntmps43 (by simp) fun w => ?_
  have htot : totN s.S = sumS s.S := totN_sum (by have := hok.sum; omega)
  have hsum := hok.sum
  have hrd0 := hok.fine.rd0
  have hrd1 := hok.fine.rd1
  refine .seq (.region ?_)
  refine .w (.assign rfl) ?_
  refine .w (.assign rfl) ?_
  refine .nil (.tn (.seq (.region ?_)))
  refine .w (.move rfl) ?_
  refine .w (.nilCheck rfl) ?_
  refine .w (.fieldAddr fa_77_0 rfl) ?_
  refine .w (.ld one_22 rfl (hj := by first | exact RA.get_rd _ | exact RA.get_st _ | exact RA.get_me _ | exact RA.get_sh _ | exact RA.get_sv _ | exact RA.get_lkr _ | exact RA.get_vdr _ | exact RA.get_dcr _ | exact RA.get_bp _ | exact RA.get_bt _ | exact RA.get_bd _ | exact RA.pr_valid _ | exact RA.pr_good _ | rfl | exact tab_get (by first | omega | (simp; omega)) | exact gm (d := 0) (by first | omega | (simp; omega)))) ?_
  refine .c (f36_spec s.sv s.S) body_36 ?_
  refine .w (.as (v' := u64 (BitVec.ofNat 64 (totN s.S))) (.indexAgg (j := 0) Tryd.underlying88 Tryd.underlying48 sz_48 rfl rfl (by first | exact ltb rfl | (simp; done) | (simp; omega) | omega | (simp [*]; omega)) (by first | rfl | exact gm (d := 0) (by first | omega | (simp; omega)))) rfl) ?_
  refine .w (.assign rfl) ?_
  refine .nil (.tn (.seq (.seq (.region ?_))))
  refine .w (.assign rfl) ?_
  refine .nil (.tn (.block ?_))
  refine .lp (ι := Nat × RA) (fun x => x.1 ≤ 61 ∧ s.Like x.2 ∧ ∀ j : Nat, j < x.1 → s.abs.skipP (60 - (j : Int)) = false) (fun T x => (5, it (60 - (x.1 : Int))) :: T) (fun T _ => T) (fun T x => Res.cells p x.2.cells 77 :: Res.row x.2.sv x.2.S.length 48 1 (x.2.S.map u64) :: mpR x.2.bp itK prV x.2.pr :: mpR x.2.bt k2V tpV x.2.ta :: mpR x.2.bd k2V blV x.2.dn :: Res.sep (tals x.2.S x.2.ta.es) :: T) (fun x => 61 - x.1) (0, s) [0, 4] ?_ (fun x hx => ?_)
  · exact ⟨Nat.zero_le _, RA.Like.refl hok, fun j hj => absurd hj (Nat.not_lt_zero _)⟩
  obtain ⟨k, s1⟩ := x
  obtain ⟨hk, hl1, hnj⟩ := hx
  dsimp only at hk hl1 hnj ⊢
  have hrd : s1.rd = s.abs.rd := hl1.rd
  have hrd0 : 0 ≤ s.abs.rd := hrd0
  have hrd1 : s.abs.rd ≤ 60 := hrd1
  refine .seq (.seq (.region ?_))
  refine .w (.move rfl) ?_
  refine .w (.move rfl) ?_
  refine .w (.nilCheck rfl) ?_
  refine .w (.fieldAddr fa_77_4 rfl) ?_
  refine .w (.ld one_3 rfl (hj := by first | exact RA.get_rd _ | exact RA.get_st _ | exact RA.get_me _ | exact RA.get_sh _ | exact RA.get_sv _ | exact RA.get_lkr _ | exact RA.get_vdr _ | exact RA.get_dcr _ | exact RA.get_bp _ | exact RA.get_bt _ | exact RA.get_bd _ | exact RA.pr_valid _ | exact RA.pr_good _ | rfl | exact tab_get (by first | omega | (simp; omega)) | exact gm (d := 0) (by first | omega | (simp; omega)))) ?_
  refine .w (.bin rfl rfl BinR.gtr_i) ?_
  refine .nil (.tn ?_)
  refine .cn rfl (fun hc1 => ?_) (fun hc1 => ?_)
  · rw [hrd] at hc1
    refine .skip (.tn (.seq (.block (.seq (.region ?_)))))
    refine .w (.move rfl) ?_
    refine .w (.move rfl) ?_
    refine .cb (f52_spec p s1 hl1.ok (60 - (k : Int))) body_52 ?_ (h0 := by rintro _ _ _ ⟨_, _, _, h, _⟩; exact h)
    rintro _ _ ⟨s2, hl2, rfl, _, rfl⟩
    refine .ap ?_
    rw [hl1.abs]
    refine .w (.move rfl) ?_
    refine .c (f34_spec (BitVec.ofNat 64 (s.abs.heard (60 - (k : Int)))) (BitVec.ofNat 64 (totN s.S))) body_34 ?_
    refine .nil (.tn ?_)
    refine .cn rfl (fun hc2 => ?_) (fun hc2 => ?_)
    · have hle := AR.heard_le s.abs (60 - (k : Int))
      have hsk : s.abs.skipP (60 - (k : Int)) = true := by
        refine decide_eq_true ⟨by omega, ?_⟩
        simp only [BitVec.toNat_ofNat] at hc2
        rw [Nat.mod_eq_of_lt (by omega), Nat.mod_eq_of_lt (by have : sumS s.abs.S = sumS s.S := rfl; omega), htot] at hc2
        exact hc2
      have hyes := AR.skip_yes (a := s.abs) (k := k) (by omega) hnj hsk
      refine .seq (.region ?_)
      refine .w (.move rfl) ?_
      refine .w (.move rfl) ?_
      refine .cb (f28_spec p s2 hl2.ok (60 - (k : Int)) (by omega) (by omega)) body_28 ?_
      rintro _ _ ⟨_, _, rfl⟩
      refine .ap ?_
      rw [(hl1.trans hl2).abs]
      refine .w (.assign rfl) ?_
      refine .w (.assign rfl) ?_
      refine .nil (.tn (.ret (.block_ret (.then_ret (.then_ret (.block_ret (.then_ret ?_)))))))
      exact .dn [] (Res.row _ 1 41 35 (acC (s.abs.begin (60 - (k : Int))).2) :: RA.H p ((s2.setRd (60 - (k : Int))).setSt 1)) (res2 rfl (.tmp rfl) (.tmp rfl)) ⟨((s2.setRd (60 - (k : Int))).setSt 1), _, (hl2.ok.begin (60 - (k : Int)) (by omega) (by omega)), by rw [hyes]; exact RA.begin_abs (hl1.trans hl2).abs (60 - (k : Int)), by rw [hyes], rfl, by rw [hyes, RA.begin_len]⟩
    · have hle := AR.heard_le s.abs (60 - (k : Int))
      have hn : s.abs.skipP (60 - (k : Int)) = false := by
        refine decide_eq_false (fun h => ?_)
        simp only [BitVec.toNat_ofNat] at hc2
        rw [Nat.mod_eq_of_lt (by omega), Nat.mod_eq_of_lt (by have : sumS s.abs.S = sumS s.S := rfl; omega), htot] at hc2
        exact hc2 h.2
      refine .skip (.block_normal (.tn (.region ?_)))
      refine .w (.move rfl) ?_
      refine .w (.asI (60 - ((k + 1 : Nat) : Int)) (.bin rfl rfl (BinR.sub_i (by first | (constructor <;> omega) | (constructor <;> simp <;> omega))))) ?_
      refine .w (.assign rfl) ?_
      refine .nil ?_
      refine .hd (k + 1, s2) ?_
      exact ⟨⟨by dsimp only; omega, hl1.trans hl2, fun j hj => by
        rcases Nat.lt_succ_iff_lt_or_eq.1 hj with h | h
        · exact hnj j h
        · subst h; exact hn⟩, by dsimp only; omega⟩
  · rw [hrd] at hc1
    have hno := AR.skip_no (a := s.abs) (fun j hj => by
      by_cases hjk : j < k
      · exact hnj j hjk
      · exact decide_eq_false (fun h => by omega))
    refine .exit (.then_exit (.then_exit (.block_exit (.tn (.seq (.region ?_))))))
    refine .w (.assign rfl) ?_
    refine .w (.assign rfl) ?_
    refine .nil (.tn (.ret ?_))
    refine .nilRow 41 35 ?_
    exact .dn [] (Res.row (.slice none 0 0) 0 41 35 [] :: RA.H p s1) (res2 rfl (.tmp rfl) (.tmp rfl)) ⟨s1, _, hl1.ok, by rw [hno]; exact hl1.abs, by rw [hno]; rfl, rfl, by rw [hno]; rfl⟩
end Go.Proofs.YtncececcopalgaaDoor
