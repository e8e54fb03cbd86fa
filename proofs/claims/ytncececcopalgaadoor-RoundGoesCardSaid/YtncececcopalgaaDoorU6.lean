/- Walks: a sum, what is good, is it less than a third, a world is made. -/
import Derived.Test.YtncececcopalgaaDoorU3
import Derived.Test.YtncececcopalgaaDoorY16
namespace Go.Proofs.YtncececcopalgaaDoor
open Go.RowKit
set_option maxRecDepth 100000
set_option linter.unusedVariables false
set_option linter.unusedSimpArgs false
theorem f20_spec (u : Value) (n : Nat) (S : List W64) (hn : n = S.length) (hS : n ≤ 100) :
    Spec Tryd.prog 20 #[u] [Res.rd u n 1 (S.map u64)] []
      (fun r Γ' H' => r = (u64 (BitVec.ofNat 64 (sumS S))) ∧ Γ' = [] ∧ H' = []) := by
  refine Spec.of_args Tryd.func20 rfl Tryd.ntmps20 (by simp) fun w => ?_
  subst hn
  refine .seq (.region ?_)
  refine .w (.assign rfl) ?_
  refine .nil (.tn (.seq (.region ?_)))
  refine .w (.assign rfl) ?_
  refine .nil (.tn (.seq (.seq (.region ?_))))
  refine .w (.assign rfl) ?_
  refine .nil (.tn (.block ?_))
  refine .lp (ι := Nat) (fun x => x ≤ S.length) (fun T x => (4, it (x : Int)) :: (3, u64 (BitVec.ofNat 64 (sumS (S.take x)))) :: T) (fun T _ => T) (fun T _ => T) (fun x => S.length - x) 0 [0, 2, 17] ?_ (fun x hx => ?_)
  · exact Nat.zero_le _
  refine .seq (.seq (.region ?_))
  refine .w (.move rfl) ?_
  refine .w (.move rfl) ?_
  refine .w (.len Tryd.underlying22 rfl) ?_
  refine .w (.bin rfl rfl BinR.lss_i) ?_
  refine .nil (.tn ?_)
  refine .cn rfl (fun hc1 => ?_) (fun hc1 => ?_)
  · skip
    refine .skip (.tn (.seq (.block (.region ?_))))
    refine .w (.move rfl) ?_
    refine .w (.move rfl) ?_
    refine .w (.move rfl) ?_
    refine .w (.ix1 Tryd.underlying22 sz_48 rfl rfl) ?_
    refine .w (.ld one_48 rfl) ?_
    refine .w (.as (v' := u64 (BitVec.ofNat 64 (sumS (S.take (x + 1))))) (.bin rfl rfl (BinR.add_u64)) (congrArg u64 (sum_step (by omega)))) ?_
    refine .w (.assign rfl) ?_
    refine .nil (.block_normal (.tn (.region ?_)))
    refine .w (.move rfl) ?_
    refine .w (.asI ((x + 1 : Nat) : Int) (.bin rfl rfl (BinR.add_i (by first | (constructor <;> omega) | (constructor <;> simp <;> omega))))) ?_
    refine .w (.assign rfl) ?_
    refine .nil ?_
    refine .hd (x + 1) ?_
    exact ⟨by omega, by omega⟩
  · have hx' : x = S.length := by omega
    subst hx'
    rw [List.take_length]
    refine .exit (.then_exit (.then_exit (.block_exit (.tn (.seq (.region ?_))))))
    refine .w (.move rfl) ?_
    refine .w (.assign rfl) ?_
    refine .nil (.tn (.ret ?_))
    exact .dn [] [] (res1 rfl (.tmp rfl)) ⟨rfl, rfl, rfl⟩

theorem f19_spec (v : D32) :
    Spec Tryd.prog 19 #[(dgV v)] [] []
      (fun r Γ' H' => r = (.bool (goodV v)) ∧ Γ' = [] ∧ H' = []) := by
  refine Spec.of_args Tryd.func19 rfl Tryd.ntmps19 (by simp) fun w => ?_
  refine .seq (.region ?_)
  refine .bx fun b1 => ?_
  refine .w (.assign rfl) ?_
  refine .nil (.tn (.seq (.region ?_)))
  refine .w (.ixA (j := 0) Tryd.underlying24 sz_5 rfl rfl) ?_
  refine .w (.ld one_5 rfl (hj := by exact dg_get0 v)) ?_
  refine .w (.bin rfl rfl (BinR.rem_u8 (b := 4#8) (by decide))) ?_
  refine .w (.as (v' := (.bool (goodV v))) (.bin rfl rfl (BinR.neq_u8 (b := 3#8))) (congrArg Value.bool (decide_eq_decide.2 (good_eq v)))) ?_
  refine .w (.assign rfl) ?_
  refine .nil (.tn (.ret ?_))
  exact .dn [] [] (res1 rfl (.tmp rfl)) ⟨rfl, rfl, rfl⟩

theorem f15_spec (u cb : Value) (S : List W64) (bad : List Bool) (h7 : S.length ≤ 7) (hb : bad.length = S.length) (h56 : ∀ j : Nat, j < S.length → (S.getD j 0).toNat < 72057594037927936) :
    Spec Tryd.prog 15 #[u, cb] [Res.rd u S.length 1 (S.map u64), Res.rd cb bad.length 1 (bad.map Value.bool)] []
      (fun r Γ' H' => r = (.bool (decide (3 * badN S bad < sumS S))) ∧ Γ' = [] ∧ H' = []) := by
  refine Spec.of_args Tryd.func15 rfl Tryd.ntmps15 (by simp) fun w => ?_
  have hs1 := sum_56 h56
  have hs2 : badN S bad ≤ sumS S := byN_le _
  refine .seq (.region ?_)
  refine .w (.assign rfl) ?_
  refine .nil (.tn (.seq (.region ?_)))
  refine .w (.move rfl) ?_
  refine .w (.len Tryd.underlying22 rfl) ?_
  refine JO.make (z := _) (bytes := _) S.length Tryd.underlying22 info_48 rfl rfl rfl (by first | decide | (simp; done) | (simp; omega) | omega | (simp [*]; omega)) (by unfold maxLen; omega) (by decide) fun v11 => ?_
  rw [badL_0 S bad]
  refine .w (.assign rfl) ?_
  refine .nil (.tn (.seq (.seq (.region ?_))))
  refine .w (.assign rfl) ?_
  refine .nil (.tn (.block ?_))
  refine .lp (ι := Nat) (fun x => x ≤ S.length) (fun T x => (6, it (x : Int)) :: T) (fun T _ => T) (fun T x => Res.row v11 S.length 48 1 ((badL S bad x).map u64) :: T) (fun x => S.length - x) 0 [0, 1, 4, 5, 7, 8, 35, 36, 37, 38, 39, 40, 41, 42, 43, 44, 45, 46, 47, 48, 49] ?_ (fun x hx => ?_)
  · exact Nat.zero_le _
  refine .seq (.seq (.region ?_))
  refine .w (.move rfl) ?_
  refine .w (.move rfl) ?_
  refine .w (.len Tryd.underlying22 rfl) ?_
  refine .w (.bin rfl rfl BinR.lss_i) ?_
  refine .w (.move rfl) ?_
  refine .join 5 21 (.bool (decide ((x : Int) < S.length ∧ (x : Int) < bad.length))) ?_ ?_
  · refine .gn (g := 15) rfl (fun hg12 hg12' => ?_) (fun hg12 hg12' => ?_)
    · refine .gt (g := 16) rfl rfl hg12 ?_
      refine .w (.move rfl) ?_
      refine .gt (g := 16) rfl rfl hg12 ?_
      refine .w (.move rfl) ?_
      refine .gt (g := 16) rfl rfl hg12 ?_
      refine .w (.len Tryd.underlying46 rfl) ?_
      refine .gt (g := 16) rfl rfl hg12 ?_
      refine .w (.bin rfl rfl BinR.lss_i) ?_
      refine .w (.pick1 rfl hg12 rfl) ?_
      refine .nil ?_
      refine .head () (by first | (refine ⟨by first | rfl | exact congrArg (fun b => some (Value.bool b)) (by first | exact (decide_eq_true (by omega)).symm | exact (decide_eq_false (by omega)).symm | exact decide_eq_decide.2 (by omega)) | (simp [*]; done) | (show some _ = some _; simp [*]; done), ?_⟩; repeat (first | exact trivial | refine ⟨rfl, ?_⟩))) (fun _ h => h) (Picks.perm (by repeat (first | exact Picks.nil _ | apply Picks.cons | exact Pull.here _ _ | apply Pull.there))) ?_
      trivial
    · refine .gf (g := 16) rfl rfl hg12 (by decide) ?_
      refine .gf (g := 16) rfl rfl hg12 (by decide) ?_
      refine .gf (g := 16) rfl rfl hg12 (by decide) ?_
      refine .gf (g := 16) rfl rfl hg12 (by decide) ?_
      refine .w (.pick0 rfl hg12 rfl) ?_
      refine .nil ?_
      refine .head () (by first | (refine ⟨by first | rfl | exact congrArg (fun b => some (Value.bool b)) (by first | exact (decide_eq_true (by omega)).symm | exact (decide_eq_false (by omega)).symm | exact decide_eq_decide.2 (by omega)) | (simp [*]; done) | (show some _ = some _; simp [*]; done), ?_⟩; repeat (first | exact trivial | refine ⟨rfl, ?_⟩))) (fun _ h => h) (Picks.perm (by repeat (first | exact Picks.nil _ | apply Picks.cons | exact Pull.here _ _ | apply Pull.there))) ?_
      trivial
  · refine .nil (.tn ?_)
    refine .cn rfl (fun hc1 => ?_) (fun hc1 => ?_)
    · skip
      refine .skip (.tn (.seq (.block (.seq (.region ?_)))))
      refine .w (.move rfl) ?_
      refine .w (.move rfl) ?_
      refine .w (.ix1 Tryd.underlying46 sz_4 rfl rfl) ?_
      refine .w (.as (v' := .bool (bad.getD x false)) (.ld one_4 rfl (hj := by exact gm (d := false) (by omega))) rfl) ?_
      refine .nil (.tn ?_)
      refine .cn rfl (fun hc2 => ?_) (fun hc2 => ?_)
      · skip
        refine .region ?_
        refine .w (.move rfl) ?_
        refine .w (.move rfl) ?_
        refine .w (.move rfl) ?_
        refine .w (.move rfl) ?_
        refine .w (.ix1 Tryd.underlying22 sz_48 rfl rfl) ?_
        refine .w (.as (v' := u64 (S.getD x 0)) (.ld one_48 rfl) rfl) ?_
        refine .w (.ix1 Tryd.underlying22 sz_48 rfl rfl) ?_
        refine .sr1 sz_48 ?_
        rw [← List.map_set, badL_set (by omega) hc2]
        refine .nil (.block_normal (.tn (.region ?_)))
        refine .w (.move rfl) ?_
        refine .w (.asI ((x + 1 : Nat) : Int) (.bin rfl rfl (BinR.add_i (by first | (constructor <;> omega) | (constructor <;> simp <;> omega))))) ?_
        refine .w (.assign rfl) ?_
        refine .nil ?_
        refine .hd (x + 1) ?_
        exact ⟨by omega, by omega⟩
      · rw [← badL_no hc2]
        refine .skip (.block_normal (.tn (.region ?_)))
        refine .w (.move rfl) ?_
        refine .w (.asI ((x + 1 : Nat) : Int) (.bin rfl rfl (BinR.add_i (by first | (constructor <;> omega) | (constructor <;> simp <;> omega))))) ?_
        refine .w (.assign rfl) ?_
        refine .nil ?_
        refine .hd (x + 1) ?_
        exact ⟨by omega, by omega⟩
    · have hx' : x = S.length := by omega
      subst hx'
      refine .exit (.then_exit (.then_exit (.block_exit (.tn (.seq (.region ?_))))))
      refine .w (.move rfl) ?_
      refine .c (f20_spec v11 S.length (badL S bad S.length) (badL_len _ _ _).symm (by omega)) body_20 ?_
      rw [badL_sum]
      refine .w (.assign rfl) ?_
      refine .nil (.tn (.seq (.region ?_)))
      refine .w (.move rfl) ?_
      refine .c (f20_spec u S.length S rfl (by omega)) body_20 ?_
      refine .w (.assign rfl) ?_
      refine .nil (.tn (.seq (.region ?_)))
      refine .w (.move rfl) ?_
      refine .w (.move rfl) ?_
      refine .c (f34_spec (BitVec.ofNat 64 (badN S bad)) (BitVec.ofNat 64 (sumS S))) body_34 ?_
      rw [less_more (a := sumS S) (n := badN S bad) (by omega) (by omega)]
      refine .w (.not rfl) ?_
      refine .w (.move rfl) ?_
      refine .join 6 49 (.bool (decide (3 * badN S bad < sumS S))) ?_ ?_
      · refine .gn (g := 42) rfl (fun hg43 hg43' => ?_) (fun hg43 hg43' => ?_)
        · refine .gt (g := 43) rfl rfl hg43 ?_
          refine .w (.move rfl) ?_
          refine .gt (g := 43) rfl rfl hg43 ?_
          refine .w (.bin rfl rfl (BinR.rem_u64 (b := 1152921504606846976#64) (by decide))) ?_
          refine .gt (g := 43) rfl rfl hg43 ?_
          refine .w (.bin rfl rfl (BinR.mul_u64 (a := 3#64))) ?_
          refine .gt (g := 43) rfl rfl hg43 ?_
          refine .w (.move rfl) ?_
          refine .gt (g := 43) rfl rfl hg43 ?_
          refine .w (.as (v' := .bool (decide (3 * badN S bad ≠ sumS S))) (.bin rfl rfl (BinR.neq_u64)) (congrArg Value.bool (less_rem (by omega) (by omega)))) ?_
          refine .w (.pick1 rfl hg43 rfl) ?_
          refine .nil ?_
          refine .head () (by first | (refine ⟨by first | rfl | exact congrArg (fun b => some (Value.bool b)) (by first | exact (decide_eq_true (by omega)).symm | exact (decide_eq_false (by omega)).symm | exact decide_eq_decide.2 (by omega)) | (simp [*]; done) | (show some _ = some _; simp [*]; done), ?_⟩; repeat (first | exact trivial | refine ⟨rfl, ?_⟩))) (fun _ h => h) (Picks.perm (by repeat (first | exact Picks.nil _ | apply Picks.cons | exact Pull.here _ _ | apply Pull.there))) ?_
          trivial
        · refine .gf (g := 43) rfl rfl hg43 (by decide) ?_
          refine .gf (g := 43) rfl rfl hg43 (by decide) ?_
          refine .gf (g := 43) rfl rfl hg43 (by decide) ?_
          refine .gf (g := 43) rfl rfl hg43 (by decide) ?_
          refine .gf (g := 43) rfl rfl hg43 (by decide) ?_
          refine .w (.pick0 rfl hg43 rfl) ?_
          refine .nil ?_
          refine .head () (by first | (refine ⟨by first | rfl | exact congrArg (fun b => some (Value.bool b)) (by first | exact (decide_eq_true (by omega)).symm | exact (decide_eq_false (by omega)).symm | exact decide_eq_decide.2 (by omega)) | (simp [*]; done) | (show some _ = some _; simp [*]; done), ?_⟩; repeat (first | exact trivial | refine ⟨rfl, ?_⟩))) (fun _ h => h) (Picks.perm (by repeat (first | exact Picks.nil _ | apply Picks.cons | exact Pull.here _ _ | apply Pull.there))) ?_
          trivial
      · refine .w (.assign rfl) ?_
        refine .nil (.tn (.ret ?_))
        exact .dn [] [] (res1 rfl (.tmp rfl)) ⟨rfl, rfl, rfl⟩

theorem f16_spec (u : Value) (S : List W64) (sh : Int) (h7 : S.length ≤ 7) (hsum : sumS S < 9223372036854775808) (h0 : 1 ≤ S.length → 0 ≤ sh) (hsh : sh ≤ 9223372036854775807) :
    Spec Tryd.prog 16 #[u, (it sh)] [Res.var 0 [u64 9223372036854775808, u64 0, u64 0, u64 0], Res.rd u S.length 1 (S.map u64)] []
      (fun r Γ' H' => ∃ (pw : Nat) (x : WA), r = ptr pw 0 ∧ x.Ok ∧ x.es.length = S.length ∧ x.abs = AW.made S sh ∧ Γ' = [] ∧ H' = WA.H pw x) := by
  refine Spec.of_args Tryd.func16 rfl Tryd.ntmps16 (by simp) fun w => ?_
  refine .seq (.region ?_)
  refine .w (.assign rfl) ?_
  refine .nil (.tn (.seq (.region ?_)))
  refine .w (.build bld_59 rfl rfl) ?_
  refine .bx fun b10 => ?_
  refine .w (.assign rfl) ?_
  refine .nil (.tn (.seq (.seq (.region ?_))))
  refine .nilRow 27 1 ?_
  refine .nilRow 33 36 ?_
  refine .sp0 ?_
  refine .w (.assign rfl) ?_
  refine .nil (.tn (.block ?_))
  refine .lp (ι := Nat × WA) (fun x => x.1 ≤ S.length ∧ x.2.Ok ∧ x.2.es.length = x.1 ∧ x.2.said = [] ∧ x.2.abs.st = (List.range x.1).map fun (i : Nat) => AR.new S (i : Int) sh (AW.dg4 i)) (fun T x => (6, it (x.1 : Int)) :: T) (fun T _ => T) (fun T x => Res.cells b10 [x.2.stv, x.2.sdv] 59 :: Res.row x.2.stv x.2.es.length 27 1 (x.2.es.map fun e => ptr e.1 0) :: Res.row x.2.sdv x.2.said.length 33 36 (msC x.2.said) :: Res.sep (stsH x.2.es) :: T) (fun x => S.length - x.1) (0, ⟨.slice none 0 0, .slice none 0 0, [], []⟩) [0, 1, 5, 41] ?_ (fun x hx => ?_)
  · exact ⟨Nat.zero_le _, ⟨(fun _ h => nomatch h), Nat.zero_le _, Nat.zero_le _⟩, rfl, rfl, rfl⟩
  obtain ⟨i, x1⟩ := x
  obtain ⟨hi, hok1, hlen, hsd, hst⟩ := hx
  dsimp only at hi hok1 hlen hsd hst ⊢
  refine .seq (.seq (.region ?_))
  refine .w (.move rfl) ?_
  refine .w (.move rfl) ?_
  refine .w (.len Tryd.underlying22 rfl) ?_
  refine .w (.bin rfl rfl BinR.lss_i) ?_
  refine .nil (.tn ?_)
  refine .cn rfl (fun hc1 => ?_) (fun hc1 => ?_)
  · have hq : ¬ ((i : Int) < 0 ∨ (S.length : Int) ≤ i ∨ sh < 0 ∨ AW.dg4 i = D0) := by
      have := h0 (by omega)
      rintro (h | h | h | h)
      · omega
      · omega
      · omega
      · exact AW.dg4_ne (by omega) h
    refine .skip (.tn (.seq (.block (.seq (.region ?_)))))
    refine .w (.move rfl) ?_
    refine .w (.move rfl) ?_
    refine .w (.move rfl) ?_
    refine .w (.move rfl) ?_
    refine .w (.asI ((4 * i : Nat) : Int) (.bin rfl rfl (BinR.mul_i (by first | (constructor <;> omega) | (constructor <;> simp <;> omega))))) ?_
    refine .w (.asI ((4 * i + 1 : Nat) : Int) (.bin rfl rfl (BinR.add_i (by first | (constructor <;> omega) | (constructor <;> simp <;> omega))))) ?_
    refine .w (.conv_i_u8 Tryd.underlying3 Tryd.underlying5 rfl) ?_
    refine .w (.as (v' := dgV (AW.dg4 i)) (.build bld_24 rfl rfl) (by first | rfl | (simp [AW.dg4, dg1, splice, List.replicate]; done))) ?_
    refine .cb (f9ok_spec u S (i : Int) sh (AW.dg4 i) (by omega) (by omega) hsum hq) body_9 ?_ (h0 := by rintro _ _ _ ⟨_, _, _, _, _, _, h, _⟩; exact h)
    rintro _ _ ⟨p, sv, bp, bt, bd, rfl, _, rfl⟩
    refine .ap ?_
    have hokn : (RA.newA sv bp bt bd S (i : Int) sh (AW.dg4 i)).Ok := RA.newA_ok (by omega) (by omega) hsum (by omega) (by omega) (h0 (by omega)) hsh
    refine .w (.move rfl) ?_
    refine .w (.as (v' := ptr p 0) (.extract rfl rfl) rfl) ?_
    refine .w (.as (v' := it 0) (.extract rfl rfl) rfl) ?_
    refine .w (.assign rfl) ?_
    refine .w (.assign rfl) ?_
    refine .nil (.tn (.seq (.seq (.region ?_))))
    refine .w (.move rfl) ?_
    refine .w (.as (v' := .bool false) (.bin rfl rfl (BinR.eql_p Tryd.underlying27)) rfl) ?_
    refine .nil (.tn ?_)
    refine .cf rfl ?_
    refine .skip (.tn (.region ?_))
    refine .w (.move rfl) ?_
    refine .w (.move rfl) ?_
    refine .w (.nilCheck rfl) ?_
    refine .w (.fieldAddr fa_59_0 rfl) ?_
    refine .w (.ld one_56 rfl) ?_
    refine .w (.move rfl) ?_
    refine .l1 Tryd.underlying56 info_27 (fun v37 => ?_)
    refine .ap Tryd.underlying56 info_27 (fun v38 => ?_)
    refine .w (.nilCheck rfl) ?_
    refine .w (.fieldAddr fa_59_0 rfl) ?_
    refine .s1s sz_56 ?_
    refine .nil (.block_normal (.tn (.region ?_)))
    refine .w (.move rfl) ?_
    refine .w (.asI ((i + 1 : Nat) : Int) (.bin rfl rfl (BinR.add_i (by first | (constructor <;> omega) | (constructor <;> simp <;> omega))))) ?_
    refine .w (.assign rfl) ?_
    refine .nil ?_
    refine .rs (WA.stsH_snoc x1.es (p, RA.newA sv bp bt bd S (i : Int) sh (AW.dg4 i))) ?_
    rw [show (x1.es.map fun e => ptr e.1 0) ++ [ptr p 0] = (x1.es ++ [(p, RA.newA sv bp bt bd S (i : Int) sh (AW.dg4 i))]).map fun e => ptr e.1 0 from by simp, show x1.es.length + 1 = (x1.es ++ [(p, RA.newA sv bp bt bd S (i : Int) sh (AW.dg4 i))]).length from by simp]
    refine .hd (i + 1, ⟨v38, x1.sdv, x1.es ++ [(p, RA.newA sv bp bt bd S (i : Int) sh (AW.dg4 i))], x1.said⟩) ?_
    exact ⟨⟨by dsimp only; omega, ⟨fun e he => by
      rcases List.mem_append.1 he with he | he
      · exact hok1.st e he
      · rw [List.mem_singleton.1 he]; exact hokn, hok1.said, by dsimp only; rw [List.length_append]; simp; omega⟩, by dsimp only; rw [List.length_append, hlen]; rfl, hsd, by dsimp only; rw [List.range_succ, List.map_append, ← hst]; simp [WA.abs, RA.newA_abs]⟩, by dsimp only; omega⟩
  · have hi' : i = S.length := by omega
    subst hi'
    refine .exit (.then_exit (.then_exit (.block_exit (.tn (.seq (.region ?_))))))
    refine .w (.move rfl) ?_
    refine .w (.assign rfl) ?_
    refine .nil (.tn (.ret ?_))
    exact .dn [] (WA.H b10 x1) (res1 rfl (.tmp rfl)) ⟨b10, x1, rfl, hok1, hlen, (by rw [show x1.abs = ⟨x1.abs.st, x1.said⟩ from rfl, hst, hsd]; rfl), rfl, rfl⟩

theorem f16n_spec (u : Value) (S : List W64) (sh : Int) (h1 : 1 ≤ S.length) (h7 : S.length ≤ 7) (hneg : sh < 0) :
    Spec Tryd.prog 16 #[u, (it sh)] [Res.var 0 [u64 9223372036854775808, u64 0, u64 0, u64 0], Res.rd u S.length 1 (S.map u64)] []
      (fun r Γ' H' => r = (.pointer none) ∧ Γ' = [] ∧ H' = []) := by
  refine Spec.of_args Tryd.func16 rfl Tryd.ntmps16 (by simp) fun w => ?_
  refine .seq (.region ?_)
  refine .w (.assign rfl) ?_
  refine .nil (.tn (.seq (.region ?_)))
  refine .w (.build bld_59 rfl rfl) ?_
  refine .bx fun b10 => ?_
  refine .w (.assign rfl) ?_
  refine .nil (.tn (.seq (.seq (.region ?_))))
  refine .w (.assign rfl) ?_
  refine .nil (.tn (.block ?_))
  refine .lp (ι := Nat) (fun x => x = 0) (fun T x => (6, it 0) :: T) (fun T _ => T) (fun T _ => T) (fun x => 0) 0 [0, 1, 5, 41] ?_ (fun x hx => ?_)
  · rfl
  refine .seq (.seq (.region ?_))
  refine .w (.move rfl) ?_
  refine .w (.move rfl) ?_
  refine .w (.len Tryd.underlying22 rfl) ?_
  refine .w (.bin rfl rfl BinR.lss_i) ?_
  refine .nil (.tn ?_)
  refine .cn rfl (fun hc1 => ?_) (fun hc1 => ?_)
  · skip
    refine .skip (.tn (.seq (.block (.seq (.region ?_)))))
    refine .w (.move rfl) ?_
    refine .w (.move rfl) ?_
    refine .w (.move rfl) ?_
    refine .w (.move rfl) ?_
    refine .w (.asI 0 (.bin rfl rfl (BinR.mul_i (by first | (constructor <;> omega) | (constructor <;> simp <;> omega))))) ?_
    refine .w (.asI 1 (.bin rfl rfl (BinR.add_i (by first | (constructor <;> omega) | (constructor <;> simp <;> omega))))) ?_
    refine .w (.conv_i_u8 Tryd.underlying3 Tryd.underlying5 rfl) ?_
    refine .w (.as (v' := dgV (AW.dg4 0)) (.build bld_24 rfl rfl) (by first | rfl | (simp [AW.dg4, dg1, splice, List.replicate]; done))) ?_
    refine .cb (f9nil_spec u S 0 sh (AW.dg4 0) (fun h => h.2.2.2 (.inr (.inr (.inl hneg))))) body_9 ?_ (h0 := by rintro _ _ _ ⟨_, _, h, _⟩; exact h)
    rintro _ _ ⟨e, rfl, _, rfl⟩
    refine .ap ?_
    refine .w (.move rfl) ?_
    refine .w (.extract rfl rfl) ?_
    refine .w (.extract rfl rfl) ?_
    refine .w (.assign rfl) ?_
    refine .w (.assign rfl) ?_
    refine .nil (.tn (.seq (.seq (.region ?_))))
    refine .w (.move rfl) ?_
    refine .w (.as (v' := .bool true) (.bin rfl rfl (BinR.eql_p Tryd.underlying27)) rfl) ?_
    refine .nil (.tn ?_)
    refine .ct rfl ?_
    refine .seq (.region ?_)
    refine .w (.assign rfl) ?_
    refine .nil (.tn (.ret (.then_ret (.block_ret (.then_ret (.then_ret (.block_ret (.then_ret ?_))))))))
    exact .dn [] [] (res1 rfl (.tmp rfl)) ⟨rfl, rfl, rfl⟩
  · exact absurd (show (0 : Int) < S.length by omega) hc1
end Go.Proofs.YtncececcopalgaaDoor
