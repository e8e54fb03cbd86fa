/- Walk: JournalWrites. -/
import Derived.Test.YtganfkmkapogmaaDoorJ7
import Derived.Test.YtganfkmkapogmaaDoorJ8
namespace Go.Proofs.YtganfkmkapogmaaDoor
open Go.RowKit
set_option maxRecDepth 100000
set_option linter.unusedVariables false
set_option linter.unusedSimpArgs false
theorem f4_spec (lv : Value) (L : List OpR) :
    Spec Tryd.prog 4 #[lv] [Res.var 1 (sqr.map u32), Res.var 0 (cub.map u32), Res.rd lv L.length 4 (bks opC L), Res.all (pcRes (opP L))] []
      (fun r Γ' H' => r = .bool true ∧ Γ' = [] ∧ H' = []) := by
  refine Spec.of_args Tryd.func4 rfl Tryd.ntmps4 (by simp) fun w => ?_
  refine JC.know (φ := L.length ≤ 9223372036854775807) (fun w hs => by obtain ⟨_, _, _, _, _, _, h⟩ := hs.rdForm (.tail _ (.tail _ (.head _))); unfold maxLen at h; omega) fun hll => ?_
  refine .seq (.region ?_)
  refine .w (.assign rfl) ?_
  refine .nil (.tn (.seq (.region ?_)))
  refine .c f8_spec body_8 ?_
  refine .w (.assign rfl) ?_
  refine .nil (.tn (.seq (.region ?_)))
  refine JO.nilRd 1 ?_
  refine .cb (f11_spec (.slice none 0 0) [] (by decide)) body_11 ?_ (h0 := by rintro _ _ _ ⟨_, _, _, h, _⟩; exact h)
  rintro _ _ ⟨p, v, rfl, _, rfl⟩
  refine .ap ?_
  rw [recs_nil, flat_nil]
  refine .w (.assign rfl) ?_
  refine .nil (.tn (.seq (.seq (.region ?_))))
  refine .w (.move rfl) ?_
  refine .w (.as (v' := .bool false) (.bin rfl rfl (BinR.eql_p Tryd.underlying27)) rfl) ?_
  refine .w (.move rfl) ?_
  refine .gt (g := 21) rfl rfl rfl ?_
  refine .w (.move rfl) ?_
  refine .gt (g := 21) rfl rfl rfl ?_
  refine .w (.len Tryd.underlying35 rfl) ?_
  refine .gt (g := 21) rfl rfl rfl ?_
  refine .w (.bin rfl rfl BinR.gtr_i) ?_
  refine .w (.pick0 rfl rfl rfl) ?_
  refine .nil (.tn ?_)
  refine .cn rfl (fun hc1 => ?_) (fun hc1 => ?_)
  · refine .seq (.region ?_)
    refine .w (.move rfl) ?_
    refine .w (.move rfl) ?_
    refine .gt (g := 27) rfl rfl rfl ?_
    refine .w (.move rfl) ?_
    refine .gt (g := 27) rfl rfl rfl ?_
    refine .w (.as (v' := .bool true) (.bin rfl rfl (BinR.neq_p Tryd.underlying27)) rfl) ?_
    refine .w (.pick1 rfl rfl rfl) ?_
    refine .w (.assign rfl) ?_
    refine .nil (.tn (.ret (.then_ret ?_)))
    exact .dn [] [] (res1 rfl (.tmp rfl)) ⟨rfl, rfl, rfl⟩
  · refine .skip (.tn (.seq (.region ?_)))
    refine JO.nilRow 5 1 ?_
    refine .w (.assign rfl) ?_
    refine .nil (.tn (.seq (.seq (.region ?_))))
    refine .w (.assign rfl) ?_
    refine .nil (.tn (.block ?_))
    refine .lp (ι := Nat × (Nat × Value) × B8 × Value) (fun x => x.1 ≤ L.length ∧ x.2.2.1.length ≤ 108 * x.1) (fun T x => (6, it (x.1 : Int)) :: (4, ptr x.2.1.1 0) :: (5, x.2.2.2) :: T) (fun T _ => T) (fun T x => Res.cells x.2.1.1 [x.2.1.2] 51 :: Res.row x.2.1.2 (x.2.2.1).length 5 1 ((x.2.2.1).map u8) :: Res.row x.2.2.2 (x.2.2.1).length 5 1 ((x.2.2.1).map u8) :: T) (fun x => L.length - x.1) (0, (p, v), [], .slice none 0 0) [0, 3, 140] ?_ (fun x hx => ?_)
    · exact ⟨Nat.zero_le _, Nat.le_refl _⟩
    obtain ⟨k, ⟨pj, vj⟩, D, dv⟩ := x
    obtain ⟨hk, hDl⟩ := hx
    dsimp only at hk hDl ⊢
    refine .seq (.seq (.region ?_))
    refine .w (.move rfl) ?_
    refine .w (.move rfl) ?_
    refine .w (.len Tryd.underlying35 rfl) ?_
    refine .w (.bin rfl rfl BinR.lss_i) ?_
    refine .nil (.tn ?_)
    refine .cn rfl (fun hc2 => ?_) (fun hc2 => ?_)
    · refine .skip (.tn (.seq (.block (.seq (.region ?_)))))
      obtain ⟨o, ho⟩ : ∃ o, opAt L k = o := ⟨_, rfl⟩
      refine JO.open (r := Res.rd o.v o.b.length 1 (o.b.map u8)) (by repeat (first | exact List.Mem.head _ | refine List.Mem.tail _ ?_)) (ho ▸ op_res (by omega)) ?_
      refine .w (.move rfl) ?_
      refine .w (.move rfl) ?_
      refine .w (.ix Tryd.underlying35 sz_37 rfl rfl) ?_
      refine .w (.as (v' := (.agg [o.v, it o.n, .bool o.t, .bool o.g].toArray)) (.lda agg_37 rfl (hm := by first | exact AM.own (by (repeat (first | exact List.Mem.head _ | refine List.Mem.tail _ ?_)); first | done | fail) (by rw [bks_len]; omega) | exact AM.ro (by (repeat (first | exact List.Mem.head _ | refine List.Mem.tail _ ?_)); first | done | fail) (by rw [bks_len]; omega) | exact AM.ownAt (by (repeat (first | exact List.Mem.head _ | refine List.Mem.tail _ ?_)); first | done | fail) (by rw [bks_len]; omega) | exact AM.rd (by repeat (first | exact Lend.same _ _ | exact Lend.row _ _ _ _ _ _ (by decide) | apply Lend.there)) (by rw [bks_len]; omega) | exact AM.row (by repeat (first | exact List.Mem.head _ | refine List.Mem.tail _ ?_)) (by rw [bks_len]; omega))) (congrArg (fun l : List Value => Value.agg l.toArray) (by rw [op_at (by omega), ho]))) ?_
      refine .al zero_37 fun b7 => ?_
      refine .sa sz_37 ?_ (h1 := (by intro a ha; simp only [List.mem_cons, List.not_mem_nil, or_false] at ha; rcases ha with rfl | rfl | rfl | rfl; exact o.one; rfl; rfl; rfl))
      refine .nil (.tn (.seq (.seq (.region ?_))))
      refine .w (.fieldAddr fa_37_0 rfl) ?_
      refine .w (.ld one_22 rfl) ?_
      refine .w (.len Tryd.underlying22 rfl) ?_
      refine .w (.bin rfl rfl BinR.gtr_i) ?_
      refine .join 6 50 (.bool (decide (o.b.length > 100 ∧ o.b.length ≤ 4000))) ?_ ?_
      · refine .w (.move rfl) ?_
        refine .gn (g := 44) rfl (fun hg36 hg36' => ?_) (fun hg36 hg36' => ?_)
        · refine .gt (g := 45) rfl rfl hg36 ?_
          refine .w (.fieldAddr fa_37_0 rfl) ?_
          refine .gt (g := 45) rfl rfl hg36 ?_
          refine .w (.ld one_22 rfl) ?_
          refine .gt (g := 45) rfl rfl hg36 ?_
          refine .w (.len Tryd.underlying22 rfl) ?_
          refine .gt (g := 45) rfl rfl hg36 ?_
          refine .w (.bin rfl rfl BinR.leq_i) ?_
          refine .w (.pick1 rfl hg36 rfl) ?_
          refine .nil ?_
          refine .head () (by first | (refine ⟨by first | rfl | exact congrArg (fun b => some (Value.bool b)) (by first | exact (decide_eq_true (by omega)).symm | exact (decide_eq_false (by omega)).symm | exact decide_eq_decide.2 (by omega)) | (simp [*]; done) | (show some _ = some _; simp [*]; done), ?_⟩; repeat (first | exact trivial | refine ⟨rfl, ?_⟩))) (fun _ h => h) (Picks.perm (by repeat (first | exact Picks.nil _ | apply Picks.cons | exact Pull.here _ _ | apply Pull.there))) ?_
          trivial
        · refine .gf (g := 45) rfl rfl hg36 (by decide) ?_
          refine .gf (g := 45) rfl rfl hg36 (by decide) ?_
          refine .gf (g := 45) rfl rfl hg36 (by decide) ?_
          refine .gf (g := 45) rfl rfl hg36 (by decide) ?_
          refine .w (.pick0 rfl hg36 rfl) ?_
          refine .nil ?_
          refine .head () (by first | (refine ⟨by first | rfl | exact congrArg (fun b => some (Value.bool b)) (by first | exact (decide_eq_true (by omega)).symm | exact (decide_eq_false (by omega)).symm | exact decide_eq_decide.2 (by omega)) | (simp [*]; done) | (show some _ = some _; simp [*]; done), ?_⟩; repeat (first | exact trivial | refine ⟨rfl, ?_⟩))) (fun _ h => h) (Picks.perm (by repeat (first | exact Picks.nil _ | apply Picks.cons | exact Pull.here _ _ | apply Pull.there))) ?_
          trivial
      · refine .nil (.tn ?_)
        refine .cn rfl (fun hc3 => ?_) (fun hc3 => ?_)
        · refine .seq (.region ?_)
          refine .w (.move rfl) ?_
          refine .w (.assign rfl) ?_
          refine .nil (.tn (.ret (.then_ret (.block_ret (.then_ret (.then_ret (.block_ret (.then_ret ?_))))))))
          exact .dn [] [] (res1 rfl (.tmp rfl)) ⟨rfl, rfl, rfl⟩
        · refine .skip (.tn (.seq (.region ?_)))
          refine .w (.fieldAddr fa_37_0 rfl) ?_
          refine .w (.ld one_22 rfl) ?_
          refine .cb (f17A_spec o.v o.b) body_17 ?_ (h0 := by rintro _ _ _ ⟨_, _, h, _⟩; exact h)
          rintro _ _ ⟨fv, rfl, _, rfl⟩
          refine .ap ?_
          refine .w (.move rfl) ?_
          refine .w (.extract rfl rfl) ?_
          refine .w (.extract rfl rfl) ?_
          refine .w (.assign rfl) ?_
          refine .w (.assign rfl) ?_
          refine .nil (.tn (.seq (.region ?_)))
          refine .w (.fieldAddr fa_37_0 rfl) ?_
          refine .w (.ld one_22 rfl) ?_
          refine .cb (f18A_spec o.v o.b) body_18 ?_ (h0 := by rintro _ _ _ ⟨_, _, h, _⟩; exact h)
          rintro _ _ ⟨fw, rfl, _, rfl⟩
          refine .ap ?_
          refine .w (.move rfl) ?_
          refine .w (.extract rfl rfl) ?_
          refine .w (.extract rfl rfl) ?_
          refine .w (.assign rfl) ?_
          refine .w (.assign rfl) ?_
          refine .nil (.tn (.seq (.region ?_)))
          refine .w (.assign rfl) ?_
          have hFl : (frF o.b).length ≤ 108 := frF_len _ hc3
          obtain ⟨q, hq⟩ : ∃ q, (max 0 (min o.n ((frF o.b).length : Int))).toNat = q := ⟨_, rfl⟩
          have hql : q ≤ (frF o.b).length := by omega
          refine .nil (.tn (.seq (.seq (.region ?_))))
          refine .w (.move rfl) ?_
          refine .w (.move rfl) ?_
          refine .w (.as (v' := .bool false) (.bin rfl rfl BinR.neq_i) (congrArg Value.bool (by simp))) ?_
          refine .w (.move rfl) ?_
          refine .gt (g := 67) rfl rfl rfl ?_
          refine .w (.move rfl) ?_
          refine .gt (g := 67) rfl rfl rfl ?_
          refine .w (.move rfl) ?_
          refine .gt (g := 67) rfl rfl rfl ?_
          refine .c (f16_spec fw fv (frF o.b) (frF o.b)) body_16 ?_
          rw [decide_eq_true rfl]
          refine .gt (g := 67) rfl rfl rfl ?_
          refine .w (.as (v' := .bool false) (.not rfl) rfl) ?_
          refine .w (.pick0 rfl rfl rfl) ?_
          refine .nil (.tn ?_)
          refine .cf rfl ?_
          refine .skip (.tn ?_)
          refine .mt (ι := Value × Value × B8) (fun x => x.2.2.length ≤ 108) (fun T x => (12, it (frE o.b)) :: (8, x.2.1) :: T) (fun T _ => T) (fun T x => Res.cells pj [x.1] 51 :: Res.row x.1 (D ++ x.2.2).length 5 1 ((D ++ x.2.2).map u8) :: Res.row x.2.1 (x.2.2).length 5 1 ((x.2.2).map u8) :: T) [0, 2, 3, 4, 5, 6, 7, 9, 10, 11, 14, 15, 31, 32, 33, 34, 35, 36, 37, 38, 39, 40, 41, 42, 43, 44, 45, 46, 47, 48, 49, 50, 51, 52, 53, 54, 55, 56, 57, 58, 59, 60, 61, 62, 63, 64, 65, 66, 67, 68, 69, 70, 71, 72, 93, 94, 95, 96, 97, 98, 99, 100, 101, 102, 103, 104, 105, 106, 107, 108, 109, 110, 111, 112, 113, 114, 115, 116, 117, 118, 119, 120, 121, 122, 123, 124, 125, 126, 127, 128, 129, 130, 131, 132, 133, 134, 135, 136, 137, 138, 139, 140] [Res.cells pj [vj] 51, Res.row vj (D).length 5 1 ((D).map u8), Res.row fv ((frF o.b)).length 5 1 (((frF o.b)).map u8)] ?_ (fun x hx => ?_)
          · refine .seq (.region ?_)
            refine .w (.fieldAddr fa_37_2 rfl) ?_
            refine .w (.ld one_4 rfl) ?_
            refine .nil (.tn ?_)
            refine .cn rfl (fun hc5 => ?_) (fun hc5 => ?_)
            · refine .seq (.region ?_)
              refine .w (.move rfl) ?_
              refine .w (.fieldAddr fa_37_0 rfl) ?_
              refine .w (.ld one_22 rfl) ?_
              refine .w (.fieldAddr fa_37_1 rfl) ?_
              refine .w (.ld one_3 rfl) ?_
              refine .cb (f19A_spec pj vj o.v D o.b o.n (by omega)) body_19 ?_ (h0 := by rintro _ _ _ ⟨_, _, h, _⟩; exact h)
              rintro _ _ ⟨v1, rfl, _, rfl⟩
              refine .ap ?_
              rw [hq]
              refine .w (.assign rfl) ?_
              refine .nil (.tn (.region ?_))
              refine .w (.move rfl) ?_
              refine .w (.fieldAddr fa_37_1 rfl) ?_
              refine .w (.ld one_3 rfl) ?_
              refine .w (.move rfl) ?_
              refine .w (.len Tryd.underlying22 rfl) ?_
              refine .w (.min_i rfl rfl) ?_
              refine .w (.asI (q : Int) (.max_i rfl rfl)) ?_
              refine .cr q Tryd.underlying22 sz_5 (fun v88 => ?_)
              rw [row_pre hql]
              refine .w (.assign rfl) ?_
              refine .nil ?_
              refine .hd (v1, v88, (frF o.b).take q) ?_
              exact (by first | exact hFl | (rw [List.length_take]; omega))
            · refine .region ?_
              refine .w (.move rfl) ?_
              refine .w (.fieldAddr fa_37_0 rfl) ?_
              refine .w (.ld one_22 rfl) ?_
              refine .cb (f20A_spec pj vj o.v D o.b (by omega)) body_20 ?_ (h0 := by rintro _ _ _ ⟨_, _, h, _⟩; exact h)
              rintro _ _ ⟨v1, rfl, _, rfl⟩
              refine .ap ?_
              refine .w (.assign rfl) ?_
              refine .nil ?_
              refine .hd (v1, fv, (frF o.b)) ?_
              exact (by first | exact hFl | (rw [List.length_take]; omega))
          · obtain ⟨v1, fu, G⟩ := x
            have hG : G.length ≤ 108 := hx
            dsimp only
            refine .seq (.region ?_)
            refine .w (.move rfl) ?_
            refine .w (.move rfl) ?_
            refine .ap Tryd.underlying22 info_5 (fun v95 => ?_)
            rw [map_cat, len_cat]
            refine .w (.assign rfl) ?_
            refine .nil (.tn ?_)
            refine .mt (ι := Nat × Value × Value × B8) (fun x => x.2.2.2.length ≤ 108 * (k + 1)) (fun T x => (4, ptr x.1 0) :: (5, x.2.2.1) :: T) (fun T _ => T) (fun T x => Res.cells x.1 [x.2.1] 51 :: Res.row x.2.1 (x.2.2.2).length 5 1 ((x.2.2.2).map u8) :: Res.row x.2.2.1 (x.2.2.2).length 5 1 ((x.2.2.2).map u8) :: T) [0, 2, 3, 6, 7, 8, 9, 10, 11, 12, 15, 31, 32, 33, 34, 35, 36, 37, 38, 39, 40, 41, 42, 43, 44, 45, 46, 47, 48, 49, 50, 51, 52, 53, 54, 55, 56, 57, 58, 59, 60, 61, 62, 63, 64, 65, 66, 67, 68, 69, 70, 71, 72, 73, 74, 75, 76, 77, 78, 79, 80, 81, 82, 83, 84, 85, 86, 87, 88, 89, 90, 91, 92, 93, 94, 95, 109, 110, 111, 112, 113, 114, 115, 116, 117, 118, 119, 120, 121, 122, 123, 124, 125, 126, 127, 128, 129, 130, 131, 132, 133, 134, 135, 136, 137, 138, 139, 140] [Res.cells pj [v1] 51, Res.row v1 ((D ++ G)).length 5 1 (((D ++ G)).map u8), Res.row v95 ((D ++ G)).length 5 1 (((D ++ G)).map u8)] ?_ (fun x hx => ?_)
            · refine .seq (.region ?_)
              refine .w (.fieldAddr fa_37_3 rfl) ?_
              refine .w (.ld one_4 rfl) ?_
              refine .nil (.tn ?_)
              refine .cn rfl (fun hc6 => ?_) (fun hc6 => ?_)
              · refine .seq (.region ?_)
                refine .w (.move rfl) ?_
                refine .cb (f13_spec pj v1 (D ++ G) (by rw [List.length_append]; omega)) body_13 ?_
                rintro v99 _ ⟨_, _, rfl⟩
                refine .ap ?_
                refine .cb (f11_spec v99 (D ++ G) (by rw [List.length_append]; omega)) body_11 ?_ (h0 := by rintro _ _ _ ⟨_, _, _, h, _⟩; exact h)
                rintro _ _ ⟨p2, v2, rfl, _, rfl⟩
                refine .ap ?_
                refine .w (.assign rfl) ?_
                refine .nil (.tn (.seq (.region ?_)))
                refine .w (.move rfl) ?_
                refine .cb (f10_spec v95 (D ++ G) (by rw [List.length_append]; omega)) body_10 ?_ (h0 := by rintro _ _ _ ⟨_, _, h, _⟩; exact h)
                rintro _ _ ⟨L2, rfl, _, rfl⟩
                refine .ap ?_
                refine .w (.move rfl) ?_
                refine .w (.extract rfl rfl) ?_
                refine .w (.extract rfl rfl) ?_
                refine .w (.assign rfl) ?_
                refine .w (.assign rfl) ?_
                refine .nil (.tn (.region ?_))
                refine .w (.move rfl) ?_
                refine .w (.move rfl) ?_
                refine .cr (endOf (recs (D ++ G))) Tryd.underlying22 sz_5 (fun v108 => ?_) (hn := (end_le _))
                rw [row_good]
                refine .w (.assign rfl) ?_
                refine .nil ?_
                refine .hd (p2, v2, v108, flat (recs (D ++ G))) ?_
                exact (by first | (dsimp only; rw [List.length_append]; omega) | (dsimp only; rw [flat_len]; have := end_le (D ++ G); rw [List.length_append] at this; omega))
              · refine .skip ?_
                refine .hd (pj, v1, v95, (D ++ G)) ?_
                exact (by first | (dsimp only; rw [List.length_append]; omega) | (dsimp only; rw [flat_len]; have := end_le (D ++ G); rw [List.length_append] at this; omega))
            · obtain ⟨p3, v3, dv2, D2⟩ := x
              have hD2 : D2.length ≤ 108 * (k + 1) := hx
              dsimp only
              refine .seq (.seq (.region ?_))
              refine .w (.move rfl) ?_
              refine .w (.as (v' := .bool false) (.bin rfl rfl (BinR.eql_p Tryd.underlying27)) rfl) ?_
              refine .w (.move rfl) ?_
              refine .gt (g := 111) rfl rfl rfl ?_
              refine .w (.move rfl) ?_
              refine .gt (g := 111) rfl rfl rfl ?_
              refine .w (.move rfl) ?_
              refine .gt (g := 111) rfl rfl rfl ?_
              refine .w (.as (v' := .bool false) (.bin rfl rfl BinR.neq_i) (congrArg Value.bool (by simp))) ?_
              refine .w (.pick0 rfl rfl rfl) ?_
              refine .nil (.tn ?_)
              refine .cf rfl ?_
              refine .skip (.tn (.seq (.region ?_)))
              refine .w (.move rfl) ?_
              refine .cb (f10_spec dv2 D2 (by omega)) body_10 ?_ (h0 := by rintro _ _ _ ⟨_, _, h, _⟩; exact h)
              rintro _ _ ⟨L3, rfl, _, rfl⟩
              refine .ap ?_
              refine .w (.move rfl) ?_
              refine .w (.extract rfl rfl) ?_
              refine .w (.extract rfl rfl) ?_
              refine .w (.assign rfl) ?_
              refine .w (.assign rfl) ?_
              refine .nil (.tn (.seq (.region ?_)))
              refine .w (.move rfl) ?_
              refine .cb (f13_spec p3 v3 D2 (by omega)) body_13 ?_
              rintro v122 _ ⟨_, _, rfl⟩
              refine .ap ?_
              refine .w (.move rfl) ?_
              refine .c (f16_spec v122 dv2 D2 D2) body_16 ?_
              rw [decide_eq_true rfl]
              refine .w (.as (v' := .bool false) (.not rfl) rfl) ?_
              refine .w (.move rfl) ?_
              refine .gt (g := 126) rfl rfl rfl ?_
              refine .w (.move rfl) ?_
              refine .gt (g := 126) rfl rfl rfl ?_
              refine .cb (f12_spec p3 v3 D2 (by omega)) body_12 ?_ (h0 := by rintro _ _ _ ⟨_, _, h, _⟩; exact h)
              rintro v128 _ ⟨A, hA, _, rfl⟩
              refine .ap ?_
              refine JO.frzP (by repeat (first | exact Pull.here _ _ | apply Pull.there)) ?_
              refine .gt (g := 126) rfl rfl rfl ?_
              refine .w (.move rfl) ?_
              refine .gt (g := 126) rfl rfl rfl ?_
              refine .c (lists_cut v128 L3 dv2 D2 A) body_15 ?_
              rw [decide_eq_true hA]
              refine .gt (g := 126) rfl rfl rfl ?_
              refine .w (.as (v' := .bool false) (.not rfl) rfl) ?_
              refine .w (.pick0 rfl rfl rfl) ?_
              refine .w (.move rfl) ?_
              refine .gt (g := 133) rfl rfl rfl ?_
              refine .w (.move rfl) ?_
              refine .gt (g := 133) rfl rfl rfl ?_
              refine .c (f14_spec p3 v3 D2 (by omega)) body_14 ?_
              refine .gt (g := 133) rfl rfl rfl ?_
              refine .w (.move rfl) ?_
              refine .gt (g := 133) rfl rfl rfl ?_
              refine .w (.len Tryd.underlying24 rfl) ?_
              refine .gt (g := 133) rfl rfl rfl ?_
              refine .w (.as (v' := .bool false) (.bin rfl rfl BinR.neq_i) (congrArg Value.bool (by simp))) ?_
              refine .w (.pick0 rfl rfl rfl) ?_
              refine .nil (.tn ?_)
              refine .cf rfl ?_
              refine .skip (.block_normal (.tn (.region ?_)))
              refine .w (.move rfl) ?_
              refine .w (.bin rfl rfl (BinR.add_i (by first | (constructor <;> omega) | (constructor <;> simp <;> omega)))) ?_
              refine .w (.assign rfl) ?_
              refine .nil ?_
              refine .hd (k + 1, (p3, v3), D2, dv2) ?_
              exact ⟨⟨by dsimp only; omega, hD2⟩, by dsimp only; omega⟩
    · refine .exit (.then_exit (.then_exit (.block_exit (.tn (.seq (.region ?_))))))
      refine .w (.move rfl) ?_
      refine .w (.assign rfl) ?_
      refine .nil (.tn (.ret ?_))
      exact .dn [] [] (res1 rfl (.tmp rfl)) ⟨rfl, rfl, rfl⟩
end Go.Proofs.YtganfkmkapogmaaDoor
