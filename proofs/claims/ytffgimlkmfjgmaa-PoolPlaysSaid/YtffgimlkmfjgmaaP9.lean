/- Walk: Unpack. -/
import Derived.Test.YtffgimlkmfjgmaaP5
import Derived.Test.YtffgimlkmfjgmaaP3
import Derived.Test.YtffgimlkmfjgmaaP17p
import Derived.Test.YtffgimlkmfjgmaaF7
namespace Go.Proofs.Ytffgimlkmfjgmaa
open Go.RowKit
set_option maxRecDepth 100000
set_option linter.unusedVariables false
set_option linter.unusedSimpArgs false
theorem f9_spec (u : Value) (b : B8) (hb : b.length ≤ 1000000) :
    Spec Try.prog 9 #[u] [Res.rd u b.length 1 (b.map u8)] []
      (fun r Γ' H' => ∃ v N, bytesP N = unL b ∧ r = .tuple #[u64 (unH b), v, it (unE b)] ∧ Γ' = [Res.all (pcRes N)] ∧ H' = [Res.row v N.length 24 1 (N.map Prod.fst)]) := by
  refine Spec.of_args Try.func9 rfl Try.ntmps9 (by simp) fun w => ?_
  have hn10 := unN_le b
  have hb1 := Rdr.smA_b (Rdr.mk b 0) mx
  have hb2 := Rdr.smA_b ((Rdr.mk b 0).smA mx) 10#64
  dsimp only at hb1
  refine .seq (.region ?_)
  refine .w (.assign rfl) ?_
  refine JO.nilRow 24 1 ?_
  refine JO.sp0 ?_
  refine .w (.assign rfl) ?_
  refine .w (.assign rfl) ?_
  refine .nil (.tn (.seq (.region ?_)))
  refine .w (.move rfl) ?_
  refine .cb (f30_spec u b) body_30 ?_ (h0 := by rintro _ _ _ ⟨_, _, h, _⟩; exact h)
  rintro _ _ ⟨p, rfl, _, rfl⟩
  refine .ap ?_
  refine .w (.assign rfl) ?_
  refine .nil (.tn (.seq (.region ?_)))
  refine .w (.move rfl) ?_
  refine .cs (f31_spec p u (Rdr.mk b 0) mx) body_31 ?_
  rintro _ _ _ ⟨v1, rfl, rfl, rfl⟩
  refine .ap ?_
  refine .ap ?_
  refine .w (.assign rfl) ?_
  refine .nil (.tn (.seq (.seq (.region ?_))))
  refine .w (.move rfl) ?_
  refine .cs (f31_spec p v1 ((Rdr.mk b 0).smA mx) 10#64) body_31 ?_
  rintro _ _ _ ⟨v2, rfl, rfl, rfl⟩
  refine .ap ?_
  refine .ap ?_
  refine .w (.move rfl) ?_
  refine .nil (.tn (.block ?_))
  refine .lp (ι := (Nat × Pcs) × Rdr × Value × Value) (fun x => x.1.1 ≤ unN b ∧ x.1.2.length = x.1.1 ∧ x.2.1.b.length ≤ 1000000 ∧ Rdr.goB (unN b - x.1.1) (bytesP x.1.2) x.2.1 = unG b) (fun T x => (3, x.2.2.1) :: (12, u64 (BitVec.ofNat 64 x.1.1)) :: T) (fun T x => Res.rd x.2.2.2 x.2.1.b.length 1 (x.2.1.b.map u8) :: T) (fun T x => Res.cells p [x.2.2.2, it x.2.1.e] 77 :: Res.row x.2.2.1 x.1.2.length 24 1 (x.1.2.map Prod.fst) :: Res.sep (rowsP x.1.2 5) :: T) (fun x => unN b - x.1.1) ((0, []), unR b, .slice none 0 0, v2) [2, 4, 5, 11, 20, 21, 22, 23, 24, 25, 26, 27, 28, 29, 30, 31, 32, 33, 34, 35, 36, 37] ?_ (fun x hx => ?_)
  · exact ⟨Nat.zero_le _, rfl, by show (unR b).b.length ≤ 1000000; unfold unR; omega, rfl⟩
  obtain ⟨⟨k, N⟩, rk, v5, v'⟩ := x
  obtain ⟨hk, hNl, hrb, hgo⟩ := hx
  dsimp only at hk hNl hrb hgo ⊢
  have hbb := Rdr.byA_b rk 1000
  refine .seq (.region ?_)
  refine .w (.bin rfl rfl (BinR.lss_u64)) ?_
  refine .nil (.tn (.seq ?_))
  refine .cn rfl (fun hc1 => ?_) (fun hc1 => ?_)
  · have hck : k < unN b := by unfold unN mx; have h1 := hc1; rw [BitVec.toNat_ofNat, Nat.mod_eq_of_lt (by omega)] at h1; exact h1
    refine .skip (.tn (.seq (.block (.region ?_))))
    refine .w (.move rfl) ?_
    refine .w (.move rfl) ?_
    refine .cs (f32_spec p v' rk 1000 (by omega)) body_32 ?_
    rintro v16 _ _ ⟨v3, _, rfl, rfl⟩
    refine .ap ?_
    refine .ap ?_
    refine JO.know (φ := v16.oneCell' = true) (fun w hs => (by obtain ⟨A, c, rfl, _⟩ := row_rd (by decide) (Res.row_ok.1 (hs.hok _ (.head _))); rfl)) fun hv16 => ?_
    refine .l1 Try.underlying23 info_24 (fun v17 => ?_) (h1 := (one_sing hv16))
    refine .ap Try.underlying23 info_24 (fun v18 => ?_) (hone := (one_sing hv16))
    rw [snoc_row (b := rk.byO 1000)]
    refine .w (.assign rfl) ?_
    refine .nil (.block_normal (.tn (.region ?_)))
    refine .w (.as (v' := u64 (BitVec.ofNat 64 (k + 1))) (.bin rfl rfl (BinR.add_u64 (b := 1#64))) (congrArg u64 (by apply BitVec.eq_of_toNat_eq; simp))) ?_
    refine .w (.move rfl) ?_
    refine .nil ?_
    refine .rs (A := [Res.row v16 (rk.byO 1000).length 5 1 ((rk.byO 1000).map u8)]) (B := rowsP N 5) (L := rowsP (N ++ [(v16, rk.byO 1000)]) 5) (by simp [rowsP]) ?_
    refine .hd ((k + 1, N ++ [(v16, rk.byO 1000)]), rk.byA 1000, v18, v3) ?_
    refine ⟨⟨by dsimp only; omega, by simp [hNl], by dsimp only; omega, ?_⟩, by dsimp only; omega⟩
    dsimp only
    rw [← hgo, show unN b - k = (unN b - (k + 1)) + 1 by omega, Rdr.goB]
    simp [bytesP]
  · have hck : k = unN b := by have h1 := hc1; rw [BitVec.toNat_ofNat, Nat.mod_eq_of_lt (by omega)] at h1; have h2 : ¬ k < unN b := h1; omega
    subst hck
    rw [Nat.sub_self] at hgo
    refine .exit (.then_exit (.then_exit (.block_exit (.tn (.seq (.region ?_))))))
    have hun : unG b = (bytesP N, rk) := hgo.symm
    refine JO.frzP (by repeat (first | exact Pull.here _ _ | apply Pull.there)) ?_
    refine JO.nilRd 1 ?_
    refine .w (.move rfl) ?_
    refine .c (f33_spec p v' rk) body_33 ?_
    refine .w (.assign rfl) ?_
    refine .nil (.tn ?_)
    refine .mt (ι := Unit) (fun x => True) (fun T x => (4, it (unE b)) :: T) (fun T _ => T) (fun T _ => T) [2, 3, 33, 34, 35, 36, 37] [] ?_ (fun x hx => ?_)
    · refine .seq (.region ?_)
      refine JO.env [(2, u64 ((Rdr.mk b 0).sm mx)), (3, v5), (4, it rk.fin), (5, ptr p 0)] (by repeat (first | exact trivial | refine ⟨by first | rfl | (simp; done), ?_⟩)) ?_
      refine .w (.move rfl) ?_
      refine .w (.bin rfl rfl BinR.eql_i) ?_
      refine .join 9 32 (.bool (decide (rk.fin = 0 ∧ (twB (bytesP N) = true ∨ hasP (isB []) (bytesP N) = true)))) ?_ ?_
      · refine .w (.move rfl) ?_
        refine .gn (g := 23) rfl (fun hg28 hg28' => ?_) (fun hg28 hg28' => ?_)
        · refine .gt (g := 24) rfl rfl hg28 ?_
          refine .w (.move rfl) ?_
          refine .gt (g := 24) rfl rfl hg28 ?_
          refine .c (f26_spec v5 N) body_26 ?_
          refine .gt (g := 24) rfl rfl hg28 ?_
          refine .w (.move rfl) ?_
          refine .gn (g := 26) rfl (fun hg31 hg31' => ?_) (fun hg31 hg31' => ?_)
          · refine .gf (g := 27) rfl rfl hg31 (by decide) ?_
            refine .gf (g := 27) rfl rfl hg31 (by decide) ?_
            refine .gf (g := 27) rfl rfl hg31 (by decide) ?_
            refine .gt (g := 24) rfl rfl hg28 ?_
            refine .w (.pick1 rfl hg31 rfl) ?_
            refine .w (.pick1 rfl hg28 rfl) ?_
            refine .nil ?_
            refine .head () (by first | (refine ⟨by first | rfl | exact congrArg (fun b => some (Value.bool b)) (by first | exact (decide_eq_true (by omega)).symm | exact (decide_eq_false (by omega)).symm | exact decide_eq_decide.2 (by omega)) | (simp [*]; done) | (show some _ = some _; simp [*]; done), ?_⟩; repeat (first | exact trivial | refine ⟨rfl, ?_⟩))) (fun _ h => h) (Picks.perm (by repeat (first | exact Picks.nil _ | apply Picks.cons | exact Pull.here _ _ | apply Pull.there))) ?_
            trivial
          · refine .gt (g := 27) rfl rfl hg31 ?_
            refine .w (.move rfl) ?_
            refine .gt (g := 27) rfl rfl hg31 ?_
            refine .cb (f34_spec (.slice none 0 0) rfl) body_34 ?_ (h0 := by rintro _ _ _ ⟨_, _, h, _⟩; exact h)
            rintro _ _ ⟨q, rfl, _, rfl⟩
            refine .ap ?_
            refine .gt (g := 27) rfl rfl hg31 ?_
            refine .c (f23Is_spec v5 N q (.slice none 0 0) []) body_23 ?_
            refine .gt (g := 24) rfl rfl hg28 ?_
            refine .w (.pick0 rfl hg31 rfl) ?_
            refine .w (.pick1 rfl hg28 rfl) ?_
            refine .nil ?_
            refine .head () (by first | (refine ⟨by first | rfl | exact congrArg (fun b => some (Value.bool b)) (by first | exact (decide_eq_true (by omega)).symm | exact (decide_eq_false (by omega)).symm | exact decide_eq_decide.2 (by omega)) | (simp [*]; done) | (show some _ = some _; simp [*]; done), ?_⟩; repeat (first | exact trivial | refine ⟨rfl, ?_⟩))) (fun _ h => h) (Picks.perm (by repeat (first | exact Picks.nil _ | apply Picks.cons | exact Pull.here _ _ | apply Pull.there))) ?_
            trivial
        · refine .gf (g := 24) rfl rfl hg28 (by decide) ?_
          refine .gf (g := 24) rfl rfl hg28 (by decide) ?_
          refine .gf (g := 24) rfl rfl hg28 (by decide) ?_
          refine .gu (g := 27) rfl rfl (by decide) ?_
          refine .gu (g := 27) rfl rfl (by decide) ?_
          refine .gu (g := 27) rfl rfl (by decide) ?_
          refine .gf (g := 24) rfl rfl hg28 (by decide) ?_
          refine .w (.pick0 rfl hg28 rfl) ?_
          refine .nil ?_
          refine .head () (by first | (refine ⟨by first | rfl | exact congrArg (fun b => some (Value.bool b)) (by first | exact (decide_eq_true (by omega)).symm | exact (decide_eq_false (by omega)).symm | exact decide_eq_decide.2 (by omega)) | (simp [*]; done) | (show some _ = some _; simp [*]; done), ?_⟩; repeat (first | exact trivial | refine ⟨rfl, ?_⟩))) (fun _ h => h) (Picks.perm (by repeat (first | exact Picks.nil _ | apply Picks.cons | exact Pull.here _ _ | apply Pull.there))) ?_
          trivial
      · refine .nil (.tn ?_)
        refine .cn rfl (fun hc2 => ?_) (fun hc2 => ?_)
        · refine .region ?_
          refine .w (.assign rfl) ?_
          refine .nil ?_
          refine .hd () ?_ (hE := (by refine ⟨congrArg (fun z => some (it z)) (by rw [unE, hun]; first | exact (if_pos hc2).symm | exact (if_neg hc2).symm), ?_⟩; repeat (first | exact trivial | refine ⟨rfl, ?_⟩)))
          trivial
        · refine .skip ?_
          refine .hd () ?_ (hE := (by refine ⟨congrArg (fun z => some (it z)) (by rw [unE, hun]; first | exact (if_pos hc2).symm | exact (if_neg hc2).symm), ?_⟩; repeat (first | exact trivial | refine ⟨rfl, ?_⟩)))
          trivial
    · obtain ⟨⟩ := x
      refine .seq (.seq (.region ?_))
      refine .w (.move rfl) ?_
      refine .w (.bin rfl rfl BinR.neq_i) ?_
      refine .nil (.tn ?_)
      refine .cn rfl (fun hc3 => ?_) (fun hc3 => ?_)
      · refine .seq (.region ?_)
        refine JO.nilRow 24 1 ?_
        refine JO.all0 ?_
        refine .w (.move rfl) ?_
        refine .w (.assign rfl) ?_
        refine .w (.assign rfl) ?_
        refine .w (.assign rfl) ?_
        refine .nil (.tn (.ret (.then_ret ?_)))
        exact .dn [Res.all (pcRes [])] [Res.row (.slice none 0 0) 0 24 1 []] (res3 rfl (.tmp rfl) (.tmp rfl) (.tmp rfl)) ⟨.slice none 0 0, [], (by rw [unL, if_neg hc3]; rfl), (by rw [unH, if_neg hc3]; rfl), rfl, rfl⟩
      · refine .skip (.tn (.seq (.region ?_)))
        refine .w (.move rfl) ?_
        refine .w (.move rfl) ?_
        refine .w (.assign rfl) ?_
        refine .w (.assign rfl) ?_
        refine .w (.assign rfl) ?_
        refine .nil (.tn (.ret ?_))
        have he : unE b = 0 := hc3
        exact .dn [Res.all (pcRes N)] [Res.row v5 N.length 24 1 (N.map Prod.fst)] (res3 rfl (.tmp rfl) (.tmp rfl) (.tmp rfl)) ⟨v5, N, (by rw [unL, if_pos he, hun]), (by rw [unH, if_pos he, he]), rfl, rfl⟩
end Go.Proofs.Ytffgimlkmfjgmaa
