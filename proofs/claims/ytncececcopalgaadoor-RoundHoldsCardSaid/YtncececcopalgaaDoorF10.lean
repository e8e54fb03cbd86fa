/- Walks: the rule of decisions. -/
import Derived.Test.YtncececcopalgaaDoorF6
namespace Go.Proofs.YtncececcopalgaaDoor
open Go.RowKit
set_option maxRecDepth 100000
set_option linter.unusedVariables false
set_option linter.unusedSimpArgs false
theorem f42_spec (p : Nat) (s : RA) (hok : s.Ok) :
    Spec Tryd.prog 42 #[(ptr p 0)] [Res.var 0 [u64 9223372036854775808, u64 0, u64 0, u64 0]] (RA.H p s)
      (fun r Γ' H' => ∃ (s' : RA) (w : Value), s'.Ok ∧ s'.abs = (s.abs.decideR).1 ∧ r = .tuple #[w, .bool (s.abs.decideR).2.2] ∧ Γ' = [] ∧ H' = Res.row w (s.abs.decideR).2.1.length 41 35 (acC (s.abs.decideR).2.1) :: RA.H p s') := by
  refine Spec.of_args Tryd.func42 rfl Tryd.ntmps42 (by simp) fun w => ?_
  refine .seq (.region ?_)
  refine .w (.assign rfl) ?_
  refine .w (.assign rfl) ?_
  refine .nil (.tn (.seq (.seq (.region ?_))))
  refine .w (.move rfl) ?_
  refine .nil (.tn (.block ?_))
  refine .lp (ι := Nat × RA) (fun x => x.1 ≤ 61 ∧ s.Like x.2 ∧ ∀ j : Nat, j < x.1 → s.abs.decideP (j : Int) = false) (fun T x => (7, it (x.1 : Int)) :: T) (fun T _ => T) (fun T x => Res.cells p x.2.cells 77 :: Res.row x.2.sv x.2.S.length 48 1 (x.2.S.map u64) :: mpR x.2.bp itK prV x.2.pr :: mpR x.2.bt k2V tpV x.2.ta :: mpR x.2.bd k2V blV x.2.dn :: Res.sep (tals x.2.S x.2.ta.es) :: T) (fun x => 61 - x.1) (0, s) [0] ?_ (fun x hx => ?_)
  · exact ⟨Nat.zero_le _, RA.Like.refl hok, fun j hj => absurd hj (Nat.not_lt_zero _)⟩
  obtain ⟨k, s1⟩ := x
  obtain ⟨hk, hl1, hnj⟩ := hx
  dsimp only at hk hl1 hnj ⊢
  refine .seq (.region ?_)
  refine .w (.bin rfl rfl BinR.lss_i) ?_
  refine .nil (.tn (.seq ?_))
  refine .cn rfl (fun hc1 => ?_) (fun hc1 => ?_)
  · skip
    refine .skip (.tn (.seq (.block (.seq (.region ?_)))))
    refine .w (.move rfl) ?_
    refine .w (.assign rfl) ?_
    refine .nil (.tn (.seq (.region ?_)))
    refine .w (.move rfl) ?_
    refine .w (.nilCheck rfl) ?_
    refine .w (.fieldAddr fa_77_9 rfl) ?_
    refine .w (.ld one_73 rfl (hj := by first | exact RA.get_rd _ | exact RA.get_st _ | exact RA.get_me _ | exact RA.get_sh _ | exact RA.get_sv _ | exact RA.get_lkr _ | exact RA.get_vdr _ | exact RA.get_dcr _ | exact RA.get_bp _ | exact RA.get_bt _ | exact RA.get_bd _ | exact RA.pr_valid _ | exact RA.pr_good _ | rfl | exact tab_get (by first | omega | (simp; omega)) | exact gm (d := 0) (by first | omega | (simp; omega)))) ?_
    refine .w (.move rfl) ?_
    refine .w (.as (v' := .tuple #[prV ((s1.pr.get (k : Int)).getD Prp0), .bool (s1.pr.get (k : Int)).isSome]) (.lk2 (k : Int) Tryd.underlying73 mkey_73 zf_100) (by cases s1.pr.get (k : Int) <;> rfl)) ?_
    refine .w (.move rfl) ?_
    refine .w (.as (v' := prV ((s1.pr.get (k : Int)).getD Prp0)) (.extract rfl rfl) rfl) ?_
    refine .w (.as (v' := .bool (s1.pr.get (k : Int)).isSome) (.extract rfl rfl) rfl) ?_
    refine .al zero_100 fun b5 => ?_
    refine .sa sz_100 ?_ (h1 := (Prp.one _))
    refine .w (.assign rfl) ?_
    refine .nil (.tn (.seq (.region ?_)))
    refine .w (.move rfl) ?_
    refine .w (.move rfl) ?_
    refine .gn (g := 6) rfl (fun hg21 hg21' => ?_) (fun hg21 hg21' => ?_)
    · obtain ⟨P, hP⟩ := Option.isSome_iff_exists.1 hg21'
      have hPg : ((s1.pr.get (k : Int)).getD Prp0) = P := by rw [hP]; rfl
      rw [hPg]
      have hP' : s.abs.pr (k : Int) = some P := by rw [← hl1.abs]; exact hP
      refine .gt (g := 20) rfl rfl hg21 ?_
      refine .w (.move rfl) ?_
      refine .gt (g := 20) rfl rfl hg21 ?_
      refine .w (.move rfl) ?_
      refine .gt (g := 20) rfl rfl hg21 ?_
      refine .w (.fieldAddr fa_100_0 rfl) ?_
      refine .gt (g := 20) rfl rfl hg21 ?_
      refine .w (.as (v' := dgV P.v) (.lda agg_24 rfl) (congrArg (fun l : List Value => Value.agg l.toArray) (RA.pr_v _))) ?_
      refine .gt (g := 20) rfl rfl hg21 ?_
      refine .cb (f51_spec p s1 hl1.ok 3 (k : Int) P.v) body_51 ?_ (h0 := by rintro _ _ _ ⟨_, _, _, h, _⟩; exact h)
      rintro _ _ ⟨s2, hl2, rfl, _, rfl⟩
      refine .ap ?_
      refine .w (.pick1 rfl hg21 rfl) ?_
      refine .nil (.tn ?_)
      refine .cn rfl (fun hc2 => ?_) (fun hc2 => ?_)
      · have hyes := AR.decide_yes (a := s.abs) (by omega) hnj hP' (by rw [← hl1.abs]; exact hc2)
        refine .seq (.region ?_)
        refine .w (.move rfl) ?_
        refine .w (.fieldAddr fa_100_0 rfl) ?_
        refine .w (.as (v' := dgV P.v) (.lda agg_24 rfl) (congrArg (fun l : List Value => Value.agg l.toArray) (RA.pr_v _))) ?_
        refine .w (.move rfl) ?_
        refine .w (.as (v' := hdV ⟨P.v, (k : Int)⟩) (.bd bld_71) (congrArg (fun l : List Value => Value.agg l.toArray) (hd2 _ _))) ?_
        refine .w (.nilCheck rfl) ?_
        refine .w (.fieldAddr fa_77_8 rfl) ?_
        refine .so sz_71 ?_ (h1 := (Held.one _))
        rw [RA.set_dc]
        refine .nil (.tn (.seq (.region ?_)))
        refine .w (.move rfl) ?_
        refine .w (.fieldAddr fa_100_0 rfl) ?_
        refine .w (.as (v' := dgV P.v) (.lda agg_24 rfl) (congrArg (fun l : List Value => Value.agg l.toArray) (RA.pr_v _))) ?_
        refine .w (.as (v' := acV ⟨7, (k : Int), P.v, 0⟩) (.bd bld_41) (congrArg (fun l : List Value => Value.agg l.toArray) (act3 _ _ _))) ?_
        refine .ls Tryd.underlying31 info_41 (fun v38 => ?_) (hsz := (by intro v hv; rw [List.mem_singleton.1 hv]; exact acV_size _))
        refine .w (.assign rfl) ?_
        refine .w (.assign rfl) ?_
        refine .nil (.tn (.ret (.block_ret (.then_ret (.then_ret (.block_ret (.then_ret ?_)))))))
        exact .dn [] (Res.row _ 1 41 35 (acC [⟨7, (k : Int), P.v, 0⟩]) :: RA.H p (s2.setDc ⟨P.v, (k : Int)⟩)) (res2 rfl (.tmp rfl) (.tmp rfl)) ⟨(s2.setDc ⟨P.v, (k : Int)⟩), _, (RA.dc_ok (hl1.trans hl2).ok _), by rw [hyes]; exact (by rw [show (s2.setDc ⟨P.v, (k : Int)⟩).abs = { s2.abs with dc := ⟨P.v, (k : Int)⟩ } from rfl, (hl1.trans hl2).abs]), by rw [hyes], rfl, by rw [hyes]; rfl⟩
      · have hn : s.abs.decideP (k : Int) = false := by rw [AR.decideP_some hP', ← hl1.abs]; exact hc2
        refine .skip (.block_normal (.tn (.region ?_)))
        refine .w (.asI ((k + 1 : Nat) : Int) (.bin rfl rfl (BinR.add_i (by first | (constructor <;> omega) | (constructor <;> simp <;> omega))))) ?_
        refine .w (.move rfl) ?_
        refine .nil ?_
        first | refine .hd (k + 1, s2) ?_ | refine .hd (k + 1, s1) ?_
        exact ⟨⟨by dsimp only; omega, by first | exact hl1.trans hl2 | exact hl1, fun j hj => by
          rcases Nat.lt_succ_iff_lt_or_eq.1 hj with h | h
          · exact hnj j h
          · subst h; exact hn⟩, by dsimp only; omega⟩
    · have hP : s1.pr.get (k : Int) = none := by have h := hg21'; cases hq : s1.pr.get (k : Int) with
        | none => rfl
        | some _ => rw [hq] at h; cases h
      have hn : s.abs.decideP (k : Int) = false := AR.decideP_none (by rw [← hl1.abs]; exact hP)
      refine .gf (g := 20) rfl rfl hg21 (by decide) ?_
      refine .gf (g := 20) rfl rfl hg21 (by decide) ?_
      refine .gf (g := 20) rfl rfl hg21 (by decide) ?_
      refine .gf (g := 20) rfl rfl hg21 (by decide) ?_
      refine .gf (g := 20) rfl rfl hg21 (by decide) ?_
      refine .w (.pick0 rfl hg21 rfl) ?_
      refine .nil (.tn ?_)
      refine .k0 rfl rfl ?_
      refine .skip (.block_normal (.tn (.region ?_)))
      refine .w (.asI ((k + 1 : Nat) : Int) (.bin rfl rfl (BinR.add_i (by first | (constructor <;> omega) | (constructor <;> simp <;> omega))))) ?_
      refine .w (.move rfl) ?_
      refine .nil ?_
      first | refine .hd (k + 1, s2) ?_ | refine .hd (k + 1, s1) ?_
      exact ⟨⟨by dsimp only; omega, by first | exact hl1.trans hl2 | exact hl1, fun j hj => by
        rcases Nat.lt_succ_iff_lt_or_eq.1 hj with h | h
        · exact hnj j h
        · subst h; exact hn⟩, by dsimp only; omega⟩
  · have hno := AR.decide_no (a := s.abs) (fun j hj => hnj j (by omega))
    refine .exit (.then_exit (.then_exit (.block_exit (.tn (.seq (.region ?_))))))
    refine .w (.assign rfl) ?_
    refine .w (.assign rfl) ?_
    refine .nil (.tn (.ret ?_))
    refine .nilRow 41 35 ?_
    exact .dn [] (Res.row (.slice none 0 0) 0 41 35 [] :: RA.H p s1) (res2 rfl (.tmp rfl) (.tmp rfl)) ⟨s1, _, hl1.ok, by rw [hno]; exact hl1.abs, by rw [hno]; rfl, rfl, by rw [hno]; rfl⟩
end Go.Proofs.YtncececcopalgaaDoor
