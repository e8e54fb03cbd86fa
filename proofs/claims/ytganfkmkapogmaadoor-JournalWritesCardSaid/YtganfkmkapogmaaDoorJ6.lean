/- Walks: the journal's methods. -/
import Derived.Test.YtganfkmkapogmaaDoorJ4
namespace Go.Proofs.YtganfkmkapogmaaDoor
open Go.RowKit
set_option maxRecDepth 100000
set_option linter.unusedVariables false
set_option linter.unusedSimpArgs false
theorem f11_spec (u : Value) (d : B8) (hd : d.length ≤ 100000) :
    Spec Tryd.prog 11 #[u] [Res.var 1 (sqr.map u32), Res.var 0 (cub.map u32), Res.rd u d.length 1 (d.map u8)] []
      (fun r Γ' H' => ∃ p v, r = ptr p 0 ∧ Γ' = [] ∧ H' = [Res.cells p [v] 51, Res.row v (flat (recs d)).length 5 1 ((flat (recs d)).map u8)]) := by
  refine Spec.of_args Tryd.func11 rfl Tryd.ntmps11 (by simp) fun w => ?_
  have hel := end_le d
  have hfl := flat_len (recs d)
  refine .seq (.region ?_)
  refine .w (.assign rfl) ?_
  refine .nil (.tn (.seq (.region ?_)))
  refine .w (.move rfl) ?_
  refine .cb (f9_spec u d (by omega)) body_9 ?_ (h0 := by rintro _ _ _ ⟨_, _, _, _, h, _⟩; exact h)
  rintro _ _ ⟨L, A, hA, rfl, _, rfl⟩
  refine .ap ?_
  refine .w (.move rfl) ?_
  refine .w (.extract rfl rfl) ?_
  refine .w (.extract rfl rfl) ?_
  refine .w (.assign rfl) ?_
  refine .w (.assign rfl) ?_
  refine .nil (.tn (.seq (.region ?_)))
  refine .w (.move rfl) ?_
  refine .w (.move rfl) ?_
  refine .ct 0 (endOf (recs d)) Tryd.underlying22 sz_5 (fun v12 => ?_)
  rw [rd_good]
  refine .cb (f22_spec v12 (flat (recs d)).length ((flat (recs d)).map u8) (by omega) one_u8s) body_22 ?_
  rintro v13 _ ⟨_, _, rfl⟩
  refine .ap ?_
  refine JO.know (φ := v13.oneCell' = true) (fun w hs => (by obtain ⟨A, c, rfl, _⟩ := row_rd (by decide) (Res.row_ok.1 (hs.hok _ (.head _))); rfl)) fun hv13 => ?_
  refine .w (.as (v' := .agg #[v13]) (.bd bld_51 (hf := .cons rfl (by rw [one_cells hv13]) rfl (Nat.le_refl 1) (.nil _))) rfl) ?_
  refine .bx fun b15 => ?_
  refine .w (.assign rfl) ?_
  refine .nil (.tn (.ret ?_))
  exact .dn [] [Res.cells b15 [v13] 51, Res.row v13 (flat (recs d)).length 5 1 ((flat (recs d)).map u8)] (res1 rfl (.tmp rfl)) ⟨_, v13, rfl, rfl, rfl⟩

theorem f12_spec (p : Nat) (v : Value) (d : B8) (hd : d.length ≤ 100000) :
    Spec Tryd.prog 12 #[(ptr p 0)] [Res.var 1 (sqr.map u32), Res.var 0 (cub.map u32), Res.cells p [v] 51, Res.rd v d.length 1 (d.map u8)] []
      (fun r Γ' H' => ∃ A, bytesP A = recs d ∧ Γ' = [] ∧ H' = [Res.row r A.length 22 1 (A.map Prod.fst), Res.sep (rowsP A 5)]) := by
  refine Spec.of_args Tryd.func12 rfl Tryd.ntmps12 (by simp) fun w => ?_
  refine .seq (.region ?_)
  refine .w (.assign rfl) ?_
  refine .nil (.tn (.seq (.region ?_)))
  refine .w (.move rfl) ?_
  refine .w (.nilCheck rfl) ?_
  refine .w (.fieldAddr fa_51_0 rfl) ?_
  refine .w (.ld one_22 rfl) ?_
  refine .cb (f9_spec v d (by omega)) body_9 ?_ (h0 := by rintro _ _ _ ⟨_, _, _, _, h, _⟩; exact h)
  rintro _ _ ⟨L, A, hA, rfl, _, rfl⟩
  refine .ap ?_
  refine .w (.move rfl) ?_
  refine .w (.extract rfl rfl) ?_
  refine .w (.extract rfl rfl) ?_
  refine .w (.assign rfl) ?_
  refine .w (.assign rfl) ?_
  refine .nil (.tn (.seq (.region ?_)))
  refine .w (.move rfl) ?_
  refine .w (.assign rfl) ?_
  refine .nil (.tn (.ret ?_))
  exact .dn [] [Res.row L A.length 22 1 (A.map Prod.fst), Res.sep (rowsP A 5)] (res1 rfl (.tmp rfl)) ⟨A, hA, rfl, rfl⟩

theorem f13_spec (p : Nat) (v : Value) (d : B8) (hd : d.length ≤ 100000) :
    Spec Tryd.prog 13 #[(ptr p 0)] [Res.cells p [v] 51, Res.rd v d.length 1 (d.map u8)] []
      (fun r Γ' H' => True ∧ Γ' = [] ∧ H' = [Res.row r (d).length 5 1 ((d).map u8)]) := by
  refine Spec.of_args Tryd.func13 rfl Tryd.ntmps13 (by simp) fun w => ?_
  refine .seq (.region ?_)
  refine .w (.assign rfl) ?_
  refine .nil (.tn (.seq (.region ?_)))
  refine .w (.move rfl) ?_
  refine .w (.nilCheck rfl) ?_
  refine .w (.fieldAddr fa_51_0 rfl) ?_
  refine .w (.ld one_22 rfl) ?_
  refine .cb (f22_spec v d.length (d.map u8) (by omega) one_u8s) body_22 ?_
  rintro v7 _ ⟨_, _, rfl⟩
  refine .ap ?_
  refine .w (.assign rfl) ?_
  refine .nil (.tn (.ret ?_))
  exact .dn [] [Res.row v7 (d).length 5 1 ((d).map u8)] (res1 rfl (.tmp rfl)) ⟨trivial, rfl, rfl⟩

theorem f14_spec (p : Nat) (v : Value) (d : B8) (hd : d.length ≤ 100000) :
    Spec Tryd.prog 14 #[(ptr p 0)] [Res.var 1 (sqr.map u32), Res.var 0 (cub.map u32), Res.cells p [v] 51, Res.rd v d.length 1 (d.map u8)] []
      (fun r Γ' H' => r = (it ((recs d).length : Int)) ∧ Γ' = [] ∧ H' = []) := by
  refine Spec.of_args Tryd.func14 rfl Tryd.ntmps14 (by simp) fun w => ?_
  refine .seq (.region ?_)
  refine .w (.assign rfl) ?_
  refine .nil (.tn (.seq (.region ?_)))
  refine .w (.move rfl) ?_
  refine .cb (f12_spec p v d hd) body_12 ?_ (h0 := by rintro _ _ _ ⟨_, _, h, _⟩; exact h)
  rintro v4 _ ⟨A, hA, _, rfl⟩
  refine .ap ?_
  have hAl : A.length = (recs d).length := by rw [← hA, bytesP_len]
  refine .w (.as (v' := it ((recs d).length : Int)) (.len Tryd.underlying24 rfl) (congrArg (fun n : Nat => it (n : Int)) hAl)) ?_
  refine .w (.assign rfl) ?_
  refine .nil (.tn (.ret ?_))
  exact .dn [] [] (res1 rfl (.tmp rfl)) ⟨rfl, rfl, rfl⟩

theorem f19Ok_spec (p : Nat) (v vb : Value) (d b : B8) (n : Int) (hb : b.length ≤ 4000) (hd : d.length ≤ 1000000) :
    Spec Tryd.prog 19 #[(ptr p 0), vb, (it n)] [Res.var 1 (sqr.map u32), Res.var 0 (cub.map u32), Res.rd vb b.length 1 (b.map u8)] [Res.cells p [v] 51, Res.row v (d).length 5 1 ((d).map u8)]
      (fun r Γ' H' => ∃ v', r = it 0 ∧ Γ' = [] ∧ H' = [Res.cells p [v'] 51, Res.row v' (d ++ (frameB b).take ((max 0 (min n ((8 + b.length : Nat) : Int))).toNat)).length 5 1 ((d ++ (frameB b).take ((max 0 (min n ((8 + b.length : Nat) : Int))).toNat)).map u8)]) := by
  refine Spec.of_args Tryd.func19 rfl Tryd.ntmps19 (by simp) fun w => ?_
  obtain ⟨q, hq⟩ : ∃ q, ((max 0 (min n ((8 + b.length : Nat) : Int))).toNat) = q := ⟨_, rfl⟩
  have hql : q ≤ (frameB b).length := by rw [frameB_len]; omega
  refine .seq (.region ?_)
  refine .w (.assign rfl) ?_
  refine .nil (.tn (.seq (.region ?_)))
  refine .w (.move rfl) ?_
  refine .cb (f18Ok_spec vb b hb) body_18 ?_ (h0 := by rintro _ _ _ ⟨_, _, h, _⟩; exact h)
  rintro _ _ ⟨fv, rfl, _, rfl⟩
  refine .ap ?_
  refine JO.freeze (.here _ _) (by decide) ?_
  refine .w (.move rfl) ?_
  refine .w (.extract rfl rfl) ?_
  refine .w (.extract rfl rfl) ?_
  refine .w (.assign rfl) ?_
  refine .w (.assign rfl) ?_
  refine .nil (.tn (.seq (.seq (.region ?_))))
  refine .w (.move rfl) ?_
  refine .w (.as (v' := .bool true) (.bin rfl rfl BinR.eql_i) rfl) ?_
  refine .nil (.tn ?_)
  refine .ct rfl ?_
  refine JC.draw (.one 0 (.one 1 (.one 2 (.one 3 (.one 4 (.one 5 (.one 6 (.one 7 (.one 8 (.one 9 (.one 10 (.one 11 (.one 12 (.one 13 (.one 14 (.one 15 .nil)))))))))))))))) (fun i => ([12, 15] : List Nat).contains i) (fun i => ([12, 15] : List Nat).contains i) (fun i => ([0, 1, 2, 3, 5, 6, 7, 8, 9, 10, 11, 13, 14] : List Nat).contains i) mixed (by kernel_rfl) (by decide) (by kernel_rfl) ?_
  refine .uw rfl (.move rfl) ?_
  refine .uw rfl (.move rfl) ?_
  refine .uw rfl (.nilCheck rfl) ?_
  refine .uw rfl (.fieldAddr fa_51_0 rfl) ?_
  refine .w rfl (.ld one_22 rfl) ?_
  refine .uw rfl (.move rfl) ?_
  refine .uw rfl (.move rfl) ?_
  refine .uw rfl (.move rfl) ?_
  refine .uw rfl (.as (v' := it ((8 + b.length : Nat) : Int)) (.len Tryd.underlying22 rfl) (congrArg (fun n : Nat => it (n : Int)) (frameB_len b))) ?_
  refine .uw rfl (.min_i rfl rfl) ?_
  refine .uw rfl (.asI (q : Int) (.max_i rfl rfl)) ?_
  refine JR.cutRd (v := fv) 0 q (by repeat (first | exact List.Mem.head _ | refine List.Mem.tail _ ?_)) (by omega) (by omega) ?_
  rw [rd_pre q hql]
  refine .uw rfl (.cutRd (l := 0) (h := q) Tryd.underlying22 sz_5 rfl (by repeat (first | exact List.Mem.head _ | refine List.Mem.tail _ ?_)) rfl ⟨_, rfl⟩ (by first | (simp; done) | omega | (simp; omega)) (by first | (simp; done) | omega | (simp; omega))) ?_
  refine .mw rfl (.ap Tryd.underlying22 info_5 (hnm := (by rw [List.length_take, frameB_len]; unfold maxLen; omega)) (hb := (by rw [List.length_take, frameB_len]; omega))) ?_
  rintro v28 _ _ ⟨rfl, rfl⟩
  refine kp ?_
  rw [map_cat, show d.length + ((frameB b).take q).length = (d ++ (frameB b).take q).length from (List.length_append).symm]
  refine .uw rfl (.nilCheck rfl) ?_
  refine .uw rfl (.fieldAddr fa_51_0 rfl) ?_
  first | refine .mw0 rfl (.s1 sz_22) ?_ | refine .mw0 rfl (.s1s sz_22) ?_ | refine .mw0 rfl (.sr1 sz_22) ?_
  rintro _ _ _ ⟨rfl, rfl⟩
  refine kp ?_
  refine .nil (.tn (.seq (.region ?_)))
  refine .w (.move rfl) ?_
  refine .w (.assign rfl) ?_
  refine .nil (.tn (.ret ?_))
  exact .dn [] [Res.cells p [v28] 51, Res.row v28 (d ++ (frameB b).take q).length 5 1 ((d ++ (frameB b).take q).map u8)] (res1 rfl (.tmp rfl)) ⟨_, rfl, rfl, by rw [hq]⟩

theorem f19No_spec (p : Nat) (vb : Value) (b : B8) (n : Int) (hb : ¬ b.length ≤ 4000) :
    Spec Tryd.prog 19 #[(ptr p 0), vb, (it n)] [Res.rd vb b.length 1 (b.map u8)] []
      (fun r Γ' H' => r = (it 2) ∧ Γ' = [] ∧ H' = []) := by
  refine Spec.of_args Tryd.func19 rfl Tryd.ntmps19 (by simp) fun w => ?_
  refine .seq (.region ?_)
  refine .w (.assign rfl) ?_
  refine .nil (.tn (.seq (.region ?_)))
  refine .w (.move rfl) ?_
  refine .c (f18No_spec vb b hb) body_18 ?_
  refine .w (.move rfl) ?_
  refine .w (.extract rfl rfl) ?_
  refine .w (.extract rfl rfl) ?_
  refine .w (.assign rfl) ?_
  refine .w (.assign rfl) ?_
  refine .nil (.tn (.seq (.seq (.region ?_))))
  refine .w (.move rfl) ?_
  refine .w (.as (v' := .bool false) (.bin rfl rfl BinR.eql_i) rfl) ?_
  refine .nil (.tn ?_)
  refine .cf rfl ?_
  refine .skip (.tn (.seq (.region ?_)))
  refine .w (.move rfl) ?_
  refine .w (.assign rfl) ?_
  refine .nil (.tn (.ret ?_))
  exact .dn [] [] (res1 rfl (.tmp rfl)) ⟨rfl, rfl, rfl⟩

theorem f20Ok_spec (p : Nat) (v vb : Value) (d b : B8) (hb : b.length ≤ 4000) (hd : d.length ≤ 1000000) :
    Spec Tryd.prog 20 #[(ptr p 0), vb] [Res.var 1 (sqr.map u32), Res.var 0 (cub.map u32), Res.rd vb b.length 1 (b.map u8)] [Res.cells p [v] 51, Res.row v (d).length 5 1 ((d).map u8)]
      (fun r Γ' H' => ∃ v', r = it 0 ∧ Γ' = [] ∧ H' = [Res.cells p [v'] 51, Res.row v' (d ++ frameB b).length 5 1 ((d ++ frameB b).map u8)]) := by
  refine Spec.of_args Tryd.func20 rfl Tryd.ntmps20 (by simp) fun w => ?_
  refine .seq (.region ?_)
  refine .w (.assign rfl) ?_
  refine .nil (.tn (.seq (.region ?_)))
  refine .w (.move rfl) ?_
  refine .w (.move rfl) ?_
  refine .cb (f19Ok_spec p v vb d b 4008 hb hd) body_19 ?_ (h0 := by rintro _ _ _ ⟨_, _, h, _⟩; exact h)
  rintro _ _ ⟨v', rfl, _, rfl⟩
  refine .ap ?_
  rw [show (frameB b).take ((max 0 (min 4008 ((8 + b.length : Nat) : Int))).toNat) = frameB b from List.take_of_length_le (by rw [frameB_len]; omega)]
  refine .w (.assign rfl) ?_
  refine .nil (.tn (.ret ?_))
  exact .dn [] [Res.cells p [v'] 51, Res.row v' (d ++ frameB b).length 5 1 ((d ++ frameB b).map u8)] (res1 rfl (.tmp rfl)) ⟨_, rfl, rfl, rfl⟩

theorem f20No_spec (p : Nat) (vb : Value) (b : B8) (hb : ¬ b.length ≤ 4000) :
    Spec Tryd.prog 20 #[(ptr p 0), vb] [Res.rd vb b.length 1 (b.map u8)] []
      (fun r Γ' H' => r = (it 2) ∧ Γ' = [] ∧ H' = []) := by
  refine Spec.of_args Tryd.func20 rfl Tryd.ntmps20 (by simp) fun w => ?_
  refine .seq (.region ?_)
  refine .w (.assign rfl) ?_
  refine .nil (.tn (.seq (.region ?_)))
  refine .w (.move rfl) ?_
  refine .w (.move rfl) ?_
  refine .c (f19No_spec p vb b 4008 hb) body_19 ?_
  refine .w (.assign rfl) ?_
  refine .nil (.tn (.ret ?_))
  exact .dn [] [] (res1 rfl (.tmp rfl)) ⟨rfl, rfl, rfl⟩
end Go.Proofs.YtganfkmkapogmaaDoor
