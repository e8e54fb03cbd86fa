/- Walk: JournalAgain. -/
import Derived.Test.YtganfkmkapogmaaDoorJ7
namespace Go.Proofs.YtganfkmkapogmaaDoor
open Go.RowKit
set_option maxRecDepth 100000
set_option linter.unusedVariables false
set_option linter.unusedSimpArgs false
theorem lists_snoc (l m v : Value) (A B : Pcs) (b : B8) : Spec Tryd.prog 15 #[l, m] [Res.rd l A.length 1 (A.map Prod.fst), Res.rd m (B ++ [(v, b)]).length 1 ((B ++ [(v, b)]).map Prod.fst), Res.all (pcRes A), Res.all (pcRes B), Res.rd v b.length 1 (b.map u8)] [] (fun r Γ' H' => r = .bool (decide (bytesP A = bytesP (B ++ [(v, b)]))) ∧ Γ' = [] ∧ H' = []) := by
  have h := Spec.allSnoc (Γ := [Res.rd l A.length 1 (A.map Prod.fst), Res.rd m (B ++ [(v, b)]).length 1 ((B ++ [(v, b)]).map Prod.fst), Res.all (pcRes A)]) (f15_spec l m A (B ++ [(v, b)]))
  exact h

theorem f7_spec (u v : Value) (d b : B8) :
    Spec Tryd.prog 7 #[u, v] [Res.var 1 (sqr.map u32), Res.var 0 (cub.map u32), Res.rd u d.length 1 (d.map u8), Res.rd v b.length 1 (b.map u8)] []
      (fun r Γ' H' => r = .bool true ∧ Γ' = [] ∧ H' = []) := by
  refine Spec.of_args Tryd.func7 rfl Tryd.ntmps7 (by simp) fun w => ?_
  refine JC.know (φ := d.length ≤ 9223372036854775807) (fun w hs => by obtain ⟨_, _, _, _, _, _, h⟩ := hs.rdForm (.tail _ (.tail _ (.head _))); unfold maxLen at h; omega) fun hld => ?_
  refine JC.know (φ := b.length ≤ 9223372036854775807) (fun w hs => by obtain ⟨_, _, _, _, _, _, h⟩ := hs.rdForm (.tail _ (.tail _ (.tail _ (.head _)))); unfold maxLen at h; omega) fun hlb => ?_
  refine JC.know (φ := v.oneCell' = true) (fun w hs => by obtain ⟨A, c, rfl, _⟩ := hs.rdForm (.tail _ (.tail _ (.tail _ (.head _)))); rfl) fun hv1 => ?_
  have hel := end_le d
  have hfl := flat_len (recs d)
  refine .seq (.region ?_)
  refine .w (.assign rfl) ?_
  refine .nil (.tn (.seq (.region ?_)))
  refine .c f8_spec body_8 ?_
  refine .w (.assign rfl) ?_
  refine .nil (.tn (.seq (.seq (.region ?_))))
  refine .w (.move rfl) ?_
  refine .w (.len Tryd.underlying22 rfl) ?_
  refine .w (.bin rfl rfl BinR.gtr_i) ?_
  refine .join 5 20 (.bool (decide (d.length > 3000 ∨ b.length > 100))) ?_ ?_
  · refine .w (.move rfl) ?_
    refine .gn (g := 15) rfl (fun hg8 hg8' => ?_) (fun hg8 hg8' => ?_)
    · refine .gf (g := 16) rfl rfl hg8 (by decide) ?_
      refine .gf (g := 16) rfl rfl hg8 (by decide) ?_
      refine .gf (g := 16) rfl rfl hg8 (by decide) ?_
      refine .w (.pick1 rfl hg8 rfl) ?_
      refine .nil ?_
      refine .head () (by first | (refine ⟨by first | rfl | exact congrArg (fun b => some (Value.bool b)) (by first | exact (decide_eq_true (by omega)).symm | exact (decide_eq_false (by omega)).symm | exact decide_eq_decide.2 (by omega)) | (simp [*]; done) | (show some _ = some _; simp [*]; done), ?_⟩; repeat (first | exact trivial | refine ⟨rfl, ?_⟩))) (fun _ h => h) (Picks.perm (by repeat (first | exact Picks.nil _ | apply Picks.cons | exact Pull.here _ _ | apply Pull.there))) ?_
      trivial
    · refine .gt (g := 16) rfl rfl hg8 ?_
      refine .w (.move rfl) ?_
      refine .gt (g := 16) rfl rfl hg8 ?_
      refine .w (.len Tryd.underlying22 rfl) ?_
      refine .gt (g := 16) rfl rfl hg8 ?_
      refine .w (.bin rfl rfl BinR.gtr_i) ?_
      refine .w (.pick0 rfl hg8 rfl) ?_
      refine .nil ?_
      refine .head () (by first | (refine ⟨by first | rfl | exact congrArg (fun b => some (Value.bool b)) (by first | exact (decide_eq_true (by omega)).symm | exact (decide_eq_false (by omega)).symm | exact decide_eq_decide.2 (by omega)) | (simp [*]; done) | (show some _ = some _; simp [*]; done), ?_⟩; repeat (first | exact trivial | refine ⟨rfl, ?_⟩))) (fun _ h => h) (Picks.perm (by repeat (first | exact Picks.nil _ | apply Picks.cons | exact Pull.here _ _ | apply Pull.there))) ?_
      trivial
  · refine .nil (.tn ?_)
    refine .cn rfl (fun hc1 => ?_) (fun hc1 => ?_)
    · refine .seq (.region ?_)
      refine .w (.move rfl) ?_
      refine .w (.assign rfl) ?_
      refine .nil (.tn (.ret (.then_ret ?_)))
      exact .dn [] [] (res1 rfl (.tmp rfl)) ⟨rfl, rfl, rfl⟩
    · have hsm : Small (recs d ++ [b]) := fun x hx => (List.mem_append.1 hx).elim (recs_small d x) (fun h => by rw [List.mem_singleton] at h; subst h; omega)
      refine .skip (.tn (.seq (.region ?_)))
      refine .w (.move rfl) ?_
      refine .cb (f11_spec u d (by omega)) body_11 ?_ (h0 := by rintro _ _ _ ⟨_, _, _, h, _⟩; exact h)
      rintro _ _ ⟨p, v0, rfl, _, rfl⟩
      refine .ap ?_
      refine .w (.assign rfl) ?_
      refine .nil (.tn (.seq (.seq (.region ?_))))
      refine .w (.move rfl) ?_
      refine .w (.as (v' := .bool false) (.bin rfl rfl (BinR.eql_p Tryd.underlying27)) rfl) ?_
      refine .nil (.tn ?_)
      refine .cf rfl ?_
      refine .skip (.tn (.seq (.region ?_)))
      refine .w (.move rfl) ?_
      refine .cb (f13_spec p v0 (flat (recs d)) (by omega)) body_13 ?_
      rintro v27 _ ⟨_, _, rfl⟩
      refine .ap ?_
      refine .cb (f11_spec v27 (flat (recs d)) (by omega)) body_11 ?_ (h0 := by rintro _ _ _ ⟨_, _, _, h, _⟩; exact h)
      rintro _ _ ⟨p2, v2, rfl, _, rfl⟩
      refine .ap ?_
      rw [recs_good]
      refine .w (.assign rfl) ?_
      refine .nil (.tn (.seq (.seq (.region ?_))))
      refine .w (.move rfl) ?_
      refine .w (.as (v' := .bool false) (.bin rfl rfl (BinR.eql_p Tryd.underlying27)) rfl) ?_
      refine .nil (.tn ?_)
      refine .cf rfl ?_
      refine .skip (.tn (.seq (.region ?_)))
      refine .w (.move rfl) ?_
      refine .cb (f12_spec p v0 (flat (recs d)) (by omega)) body_12 ?_ (h0 := by rintro _ _ _ ⟨_, _, h, _⟩; exact h)
      rintro v32 _ ⟨A1, hA1, _, rfl⟩
      refine .ap ?_
      refine JO.frzP (by repeat (first | exact Pull.here _ _ | apply Pull.there)) ?_
      rw [recs_good] at hA1
      refine JO.know (φ := ∀ a ∈ A1.map Prod.fst, a.oneCell' = true) (fun w hs => pcs_one (hs.gok _ (.head _))) fun hA1O => ?_
      refine .w (.assign rfl) ?_
      refine .nil (.tn (.seq (.region ?_)))
      refine .w (.move rfl) ?_
      refine .cb (f13_spec p v0 (flat (recs d)) (by omega)) body_13 ?_
      rintro v34 _ ⟨_, _, rfl⟩
      refine .ap ?_
      refine .w (.move rfl) ?_
      refine .cb (f13_spec p2 v2 (flat (recs d)) (by omega)) body_13 ?_
      rintro v36 _ ⟨_, _, rfl⟩
      refine .ap ?_
      refine .c (f16_spec v34 v36 (flat (recs d)) (flat (recs d))) body_16 ?_
      rw [decide_eq_true rfl]
      refine .w (.assign rfl) ?_
      refine .nil (.tn (.seq (.region ?_)))
      refine .w (.move rfl) ?_
      refine .w (.move rfl) ?_
      refine .cb (f20Ok_spec p2 v2 v (flat (recs d)) b (by omega) (by omega)) body_20 ?_ (h0 := by rintro _ _ _ ⟨_, _, h, _⟩; exact h)
      rintro _ _ ⟨v3, rfl, _, rfl⟩
      refine .ap ?_
      rw [← flat_one b, ← flat_app]
      refine .w (.assign rfl) ?_
      refine .nil (.tn (.seq (.region ?_)))
      refine .w (.move rfl) ?_
      refine .cb (f12_spec p2 v3 (flat (recs d ++ [b])) (by rw [flat_len, endOf_app, endOf_cons, endOf_nil]; omega)) body_12 ?_ (h0 := by rintro _ _ _ ⟨_, _, h, _⟩; exact h)
      rintro v42 _ ⟨A2, hA2, _, rfl⟩
      refine .ap ?_
      refine JO.frzP (by repeat (first | exact Pull.here _ _ | apply Pull.there)) ?_
      rw [recs_flat0 hsm] at hA2
      refine .w (.assign rfl) ?_
      refine .nil (.tn (.seq (.region ?_)))
      refine .w (.move rfl) ?_
      refine .w (.move rfl) ?_
      refine .gt (g := 44) rfl rfl rfl ?_
      refine .w (.move rfl) ?_
      refine .w (.pick1 rfl rfl rfl) ?_
      refine .w (.move rfl) ?_
      refine .gt (g := 47) rfl rfl rfl ?_
      refine .w (.move rfl) ?_
      refine .gt (g := 47) rfl rfl rfl ?_
      refine .w (.as (v' := .bool true) (.bin rfl rfl BinR.eql_i) rfl) ?_
      refine .w (.pick1 rfl rfl rfl) ?_
      refine .w (.move rfl) ?_
      refine .gt (g := 51) rfl rfl rfl ?_
      refine .w (.move rfl) ?_
      refine .gt (g := 51) rfl rfl rfl ?_
      refine .le Tryd.underlying24 sz_22 fun v53 => ?_
      refine .gt (g := 51) rfl rfl rfl ?_
      refine .w (.move rfl) ?_
      refine .gt (g := 51) rfl rfl rfl ?_
      have hA1l : A1.length ≤ 400 := by have := recs_n d; rw [← hA1, bytesP_len] at this; omega
      refine .ap Tryd.underlying24 info_22 (fun v55 => ?_) (hone := hA1O)
      rw [List.nil_append, Nat.zero_add]
      refine .gt (g := 51) rfl rfl rfl ?_
      refine .w (.move rfl) ?_
      refine .gt (g := 51) rfl rfl rfl ?_
      refine .l1 Tryd.underlying24 info_22 (fun v57 => ?_) (h1 := (one_sing hv1))
      refine .gt (g := 51) rfl rfl rfl ?_
      refine .ap Tryd.underlying24 info_22 (fun v58 => ?_) (hone := (one_sing hv1))
      rw [snoc_row (b := b)]
      refine .gt (g := 51) rfl rfl rfl ?_
      refine .c (lists_snoc v42 v58 v A2 A1 b) body_15 ?_
      rw [decide_eq_true (show bytesP A2 = bytesP (A1 ++ [(v, b)]) by rw [hA2, ← hA1]; simp [bytesP])]
      refine .w (.pick1 rfl rfl rfl) ?_
      refine .w (.assign rfl) ?_
      refine .nil (.tn (.ret ?_))
      exact .dn [] [] (res1 rfl (.tmp rfl)) ⟨rfl, rfl, rfl⟩
end Go.Proofs.YtganfkmkapogmaaDoor
