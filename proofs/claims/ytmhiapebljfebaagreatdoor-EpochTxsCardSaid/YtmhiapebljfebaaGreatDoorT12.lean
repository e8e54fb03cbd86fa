/- Texts of ours, gathered: TF TG LT. -/
import Derived.Test.YtmhiapebljfebaaGreatDoorT11
/- Walks: what bytes are. -/
namespace Go.Proofs.YtmhiapebljfebaaGreatDoor
open Go.RowKit
set_option maxRecDepth 100000
set_option linter.unusedVariables false
set_option linter.unusedSimpArgs false
theorem f45_spec (u : Value) (b : B8) (hb : b.length ≤ 1000000) :
  Spec Tryz.prog 45 #[u] [Res.rd u b.length 1 (b.map u8)] []
   (fun r Γ' H' => ∃ t : TB, TBok t ∧ t.v.oneCell' = true ∧ t.key = decK b ∧ r = .tuple #[.agg (tbC t).toArray, it (decE b)] ∧ Γ' = [] ∧ H' = [Res.row t.v t.com.length 40 4 (natCells t.com)]) := by
 refine Spec.of_args Tryz.func45 rfl Tryz.ntmps45 (by simp) fun w => ?_
 have hb4 := rd_b b 4
 have hdo : (comK b).length ≤ 20 ∧ ∀ ws ∈ comK b, ws.length = 4 := com_ok b
 refine .seq (.region ?_)
 refine .al zero_42 fun b2 => ?_
 refine .w (.assign rfl) ?_
 refine .nil (.tn (.seq (.region ?_)))
 refine .w (.move rfl) (.cb (f100_spec u b) body_100 ?_ (h0 := by rintro _ _ _ ⟨_, _, h, _⟩; exact h))
 rintro _ _ ⟨p, rfl, _, rfl⟩
 refine .ap ?_
 refine .w (.assign rfl) ?_
 refine .nil (.tn (.seq (.region ?_)))
 refine .al zero_42 fun b5 => ?_
 refine .nil (.tn (.seq (.seq (.region ?_))))
 refine .w (.fieldAddr fa_42_0 rfl) (.w (.fieldAddr fa_42_1 rfl) (.w (.fieldAddr fa_42_2 rfl) (.w (.fieldAddr fa_42_3 rfl) ?_)))
 refine .l1 Tryz.underlying154 info_153 (fun v15 => ?_)
 refine .w (.len Tryz.underlying154 rfl) (.w (.move rfl) ?_)
 refine .nil (.tn (.block ?_))
 refine .lp (ι := Nat × Value) (fun x => x.1 ≤ 4) (fun T x => (17, it (x.1 : Int)) :: T) (fun T x => Res.rd x.2 (rdK b x.1).b.length 1 ((rdK b x.1).b.map u8) :: T) (fun T x => Res.cells b5 (fldT b x.1 ++ (.slice none 0 0 :: [(0 : W64), 0, 0, 0].map u64)) 42 :: Res.cells p [x.2, it (rdK b x.1).e] 218 :: T) (fun x => 4 - x.1) (0, u) [2, 3, 4, 5, 8, 15, 16, 27, 28, 29, 30, 31, 32, 33, 34, 35, 36, 37, 38, 39, 40, 41, 42, 43, 44, 45, 46, 47, 48, 49, 50, 51] ?_ (fun x hx => ?_)
 ·exact Nat.zero_le _
 obtain ⟨k, vr⟩ := x
 have hk := hx
 dsimp only at hk ⊢
 have hfb := fd_bd b k
 refine .seq (.region ?_)
 refine .w (.bin rfl rfl BinR.lss_i) ?_
 refine .nil (.tn (.seq ?_))
 refine .cn rfl (fun hc1 => ?_) (fun hc1 => ?_)
 ·skip
  refine .skip (.tn (.seq (.block (.seq (.region ?_)))))
  refine .w (.ix1 Tryz.underlying154 sz_153 rfl rfl) (.w (.as (v' := ptr b5 k) (.ld one_153 rfl (hj := by exact ptr_get b5 (by omega))) rfl) (.w (.assign rfl) ?_))
  refine .nil (.tn (.region ?_))
  refine .w (.move rfl) (.w (.move rfl) (.cs (f101_spec p vr (rdK b k) 255#64) body_101 ?_))
  rintro _ _ _ ⟨v1, rfl, rfl, rfl⟩
  refine .ap ?_
  refine .ap ?_
  refine .w (.as (v' := it (fdK b k)) (.conv_u64_i Tryz.underlying22 Tryz.underlying3 rfl (sm_i64 b k)) (congrArg it (fdK_def b k))) (.w (.nilCheck rfl) ?_)
  first | refine .s1 sz_3 ?_ | refine .sr1 sz_3 ?_
  rw [fld_set b k _ (by omega)]
  refine .nil (.block_normal (.tn (.region ?_)))
  refine .w (.bin rfl rfl (BinR.add_i (by first | (constructor <;> omega) | (constructor <;> simp <;> omega)))) (.w (.move rfl) (.nil ?_))
  refine .hd (k + 1, v1) ?_
  exact ⟨by dsimp only; omega, by dsimp only; omega⟩
 ·obtain rfl : k = 4 := by omega
  refine .exit (.then_exit (.then_exit (.block_exit (.tn (.seq (.region ?_))))))
  refine .w (.move rfl) (.cs (f102_spec p vr (rdK b 4) 20 (by omega)) body_102 ?_)
  rintro v28 _ _ ⟨v2, _, rfl, rfl⟩
  refine .ap ?_
  refine .ap ?_
  rw [comK_def]
  refine JO.know (φ := v28.oneCell' = true) (fun w hs => (by obtain ⟨A, c, rfl, _⟩ := row_rd (by decide) (Res.row_ok.1 (hs.hok _ (.head _))); rfl)) fun h28 => ?_
  refine .w (.move rfl) (.cs (f103_spec p v2 (r5K b)) body_103 ?_)
  rintro _ _ _ ⟨v3, rfl, rfl, rfl⟩
  refine .ap ?_
  refine .ap ?_
  rw [valK_def]
  refine .w (.fieldAddr fa_42_4 rfl) ?_
  first | refine .s1 sz_38 ?_ | refine .s1s sz_38 ?_ | refine .sr1 sz_38 ?_
  rw [fld_v]
  refine .w (.fieldAddr fa_42_5 rfl) (.so sz_40 ?_ (hm := (by rw [List.length_map]; exact valK_len b)) (h1 := (natsV_one _)))
  rw [fld_s b v28 (comK b) (valK_len b)]
  refine .nil (.tn (.seq (.region ?_)))
  refine .w (.move rfl) (.c (f104_spec p v3 ((r5K b).aft 32)) body_104 ?_)
  rw [endK_def]
  refine .w (.assign rfl) ?_
  refine .nil (.tn (.seq (.seq (.region ?_))))
  refine .w (.move rfl) (.w (.bin rfl rfl BinR.eql_i) (.w (.move rfl) ?_))
  refine .join 9 46 (.bool (decide (endK b = 0 ∧ (fdK b 0 < 1 ∨ fdK b 0 > 7)))) ?_ ?_
  ·refine .gn (g := 36) rfl (fun hg40 hg40' => ?_) (fun hg40 hg40' => ?_)
   ·refine .gt (g := 37) rfl rfl hg40 ?_
    refine .w (.fieldAddr fa_42_0 rfl) ?_
    refine .gt (g := 37) rfl rfl hg40 ?_
    refine .w (.as (v' := it (fdK b 0)) (.ld one_3 rfl) (by rfl)) ?_
    refine .gt (g := 37) rfl rfl hg40 ?_
    refine .w (.bin rfl rfl BinR.lss_i) ?_
    refine .gt (g := 37) rfl rfl hg40 ?_
    refine .w (.move rfl) ?_
    refine .gn (g := 40) rfl (fun hg44 hg44' => ?_) (fun hg44 hg44' => ?_)
    ·refine .gf (g := 41) rfl rfl hg44 (by decide) ?_
     refine .gf (g := 41) rfl rfl hg44 (by decide) ?_
     refine .gf (g := 41) rfl rfl hg44 (by decide) ?_
     refine .gt (g := 37) rfl rfl hg40 ?_
     refine .w (.pick1 rfl hg44 rfl) (.w (.pick1 rfl hg40 rfl) (.nil ?_))
     refine .head () zq0 (fun _ h => h) (Picks.perm zq1) ?_
     trivial
    ·refine .gt (g := 41) rfl rfl hg44 ?_
     refine .w (.fieldAddr fa_42_0 rfl) ?_
     refine .gt (g := 41) rfl rfl hg44 ?_
     refine .w (.as (v' := it (fdK b 0)) (.ld one_3 rfl) (by rfl)) ?_
     refine .gt (g := 41) rfl rfl hg44 ?_
     refine .w (.bin rfl rfl BinR.gtr_i) ?_
     refine .gt (g := 37) rfl rfl hg40 ?_
     refine .w (.pick0 rfl hg44 rfl) (.w (.pick1 rfl hg40 rfl) (.nil ?_))
     refine .head () zq0 (fun _ h => h) (Picks.perm zq1) ?_
     trivial
   ·refine .gf (g := 37) rfl rfl hg40 (by decide) ?_
    refine .gf (g := 37) rfl rfl hg40 (by decide) ?_
    refine .gf (g := 37) rfl rfl hg40 (by decide) ?_
    refine .gf (g := 37) rfl rfl hg40 (by decide) ?_
    refine .gu (g := 41) rfl rfl (by decide) ?_
    refine .gu (g := 41) rfl rfl (by decide) ?_
    refine .gu (g := 41) rfl rfl (by decide) ?_
    refine .gf (g := 37) rfl rfl hg40 (by decide) ?_
    refine .w (.pick0 rfl hg40 rfl) (.nil ?_)
    refine .head () zq0 (fun _ h => h) (Picks.perm zq1) ?_
    trivial
  ·refine .nil (.tn ?_)
   refine .cn rfl (fun hc2 => ?_) (fun hc2 => ?_)
   ·have he : decE b = 31 := decE_1 hc2
    refine .region (.w (.assign rfl) ?_)
    refine .nil (.tn (.seq (.seq (.region ?_))))
    refine .w (.move rfl) (.w (.bin rfl rfl BinR.neq_i) ?_)
    refine .nil (.tn ?_)
    refine .cn rfl (fun hc3 => ?_) (fun hc3 => ?_)
    ·have hne : decE b ≠ 0 := by rw [he]; first | exact hc3 | decide
     refine JC.nilRow 40 4 ?_
     refine .seq (.region ?_)
     refine .w (.as (v' := .agg (tbC (⟨0, 0, 0, 0, .slice none 0 0, [], [0, 0, 0, 0]⟩ : TB)).toArray) (.bd bld_42) (by rfl)) (.w (.move rfl) (.sa sz_42 ?_ (h1 := (tb_one (t := (⟨0, 0, 0, 0, .slice none 0 0, [], [0, 0, 0, 0]⟩ : TB)) rfl))))
     refine .w (.assign rfl) ?_
     refine .nil (.tn (.ret (.then_ret ?_)))
     exact .dn [] [Res.row (.slice none 0 0) 0 40 4 []] (res2 rfl (.cl agg_42) (.tmp rfl)) ⟨(⟨0, 0, 0, 0, .slice none 0 0, [], [0, 0, 0, 0]⟩ : TB), ⟨rfl, (fun _ h => absurd h List.not_mem_nil), by decide⟩, rfl, decK_1 hne, by rw [he], rfl, rfl⟩
    ·have h0 : decE b = 0 := by rw [he]; first | exact hc3 | exact Classical.not_not.1 hc3 | (exfalso; exact absurd hc3 (by decide))
     refine .skip (.tn (.seq (.region ?_)))
     refine .w (.lda agg_42 rfl) (.sa sz_42 ?_ (hm := (by rw [tbC_len]; exact congrArg (5 + ·) (valK_len b))) (h1 := (tb_one h28)))
     refine .w (.assign rfl) ?_
     refine .nil (.tn (.ret ?_))
     exact .dn [] [Res.row v28 (comK b).length 40 4 (natCells (comK b))] (res2 rfl (.cl agg_42) (.tmp rfl)) ⟨(⟨fdK b 0, fdK b 1, fdK b 2, fdK b 3, v28, comK b, valK b⟩ : TB), ⟨valK_len b, hdo.2, (show (comK b).length ≤ 1000000 by omega)⟩, h28, decK_0 h0 v28, by rw [h0], rfl, rfl⟩
   ·have he : decE b = endK b := decE_0 hc2
    refine .skip (.tn (.seq (.seq (.region ?_))))
    refine .w (.move rfl) (.w (.bin rfl rfl BinR.neq_i) ?_)
    refine .nil (.tn ?_)
    refine .cn rfl (fun hc3 => ?_) (fun hc3 => ?_)
    ·have hne : decE b ≠ 0 := by rw [he]; first | exact hc3 | decide
     refine JC.nilRow 40 4 ?_
     refine .seq (.region ?_)
     refine .w (.as (v' := .agg (tbC (⟨0, 0, 0, 0, .slice none 0 0, [], [0, 0, 0, 0]⟩ : TB)).toArray) (.bd bld_42) (by rfl)) (.w (.move rfl) (.sa sz_42 ?_ (h1 := (tb_one (t := (⟨0, 0, 0, 0, .slice none 0 0, [], [0, 0, 0, 0]⟩ : TB)) rfl))))
     refine .w (.assign rfl) ?_
     refine .nil (.tn (.ret (.then_ret ?_)))
     exact .dn [] [Res.row (.slice none 0 0) 0 40 4 []] (res2 rfl (.cl agg_42) (.tmp rfl)) ⟨(⟨0, 0, 0, 0, .slice none 0 0, [], [0, 0, 0, 0]⟩ : TB), ⟨rfl, (fun _ h => absurd h List.not_mem_nil), by decide⟩, rfl, decK_1 hne, by rw [he], rfl, rfl⟩
    ·have h0 : decE b = 0 := by rw [he]; first | exact hc3 | exact Classical.not_not.1 hc3 | (exfalso; exact absurd hc3 (by decide))
     refine .skip (.tn (.seq (.region ?_)))
     refine .w (.lda agg_42 rfl) (.sa sz_42 ?_ (hm := (by rw [tbC_len]; exact congrArg (5 + ·) (valK_len b))) (h1 := (tb_one h28)))
     refine .w (.assign rfl) ?_
     refine .nil (.tn (.ret ?_))
     exact .dn [] [Res.row v28 (comK b).length 40 4 (natCells (comK b))] (res2 rfl (.cl agg_42) (.tmp rfl)) ⟨(⟨fdK b 0, fdK b 1, fdK b 2, fdK b 3, v28, comK b, valK b⟩ : TB), ⟨valK_len b, hdo.2, (show (comK b).length ≤ 1000000 by omega)⟩, h28, decK_0 h0 v28, by rw [h0], rfl, rfl⟩

theorem f46_spec (u : Value) (b : B8) (hb : b.length ≤ 1000000) :
  Spec Tryz.prog 46 #[u] [Res.rd u b.length 1 (b.map u8)] []
   (fun r Γ' H' => ∃ t : TB, TBok t ∧ t.v.oneCell' = true ∧ t.key = decK b ∧ r = .tuple #[.agg (tbC t).toArray, it (decE b)] ∧ Γ' = [] ∧ H' = [Res.row t.v t.com.length 40 4 (natCells t.com)]) := by
 refine Spec.of_args Tryz.func46 rfl Tryz.ntmps46 (by simp) fun w => ?_
 have hb4 := rd_b b 4
 have hdo : (comK b).length ≤ 20 ∧ ∀ ws ∈ comK b, ws.length = 4 := com_ok b
 have hf0 := fd_bd b 0
 refine JC.know (φ := u.oneCell' = true) (fun w hs => by obtain ⟨A, c, rfl, _⟩ := hs.rdForm (.head _); rfl) fun hu => ?_
 obtain ⟨p0, hp0, hl0⟩ : ∃ p0 : Nat, p0 = 0 ∧ RdL b p0 (rdK b 0) := ⟨0, rfl, RdL.begin b⟩
 refine .seq (.region ?_)
 refine .al zero_42 fun b2 => ?_
 refine .w (.assign rfl) ?_
 refine .nil (.tn (.seq (.region ?_)))
 refine .w (.move rfl) (.w (.as (v' := .agg #[u, it 0, it 0]) (.bd bld_159 (hf := .cons rfl (by rw [one_cells hu]) rfl (show 0 + 1 ≤ 3 by decide) (.nil _))) rfl) (.bx fun b9 => ?_))
 rw [show (Value.agg #[u, it 0, it 0]).cells.toList = [u, it (p0 : Int), it (rdK b 0).e] from by rw [hp0]; rfl]
 refine .w (.assign rfl) ?_
 refine .nil (.tn (.seq (.region ?_)))
 refine .w (.as (v' := .agg (tbC (⟨0, 0, 0, 0, .slice none 0 0, [], [0, 0, 0, 0]⟩ : TB)).toArray) (.bd bld_42) (by rfl)) (.al zero_42 fun b5 => ?_)
 refine .sa sz_42 ?_ (h1 := (tb_one (t := (⟨0, 0, 0, 0, .slice none 0 0, [], [0, 0, 0, 0]⟩ : TB)) rfl))
 rw [show tbC (⟨0, 0, 0, 0, .slice none 0 0, [], [0, 0, 0, 0]⟩ : TB) = fldT b 0 ++ (.slice none 0 0 :: [(0 : W64), 0, 0, 0].map u64) from rfl]
 refine .nil (.tn (.seq (.region ?_)))
 refine .w (.move rfl) (.cb (f105_spec b9 u b p0 (rdK b 0) hl0 hb 255#64) body_105 ?_ (h0 := by rintro _ _ _ ⟨_, _, _, h, _⟩; exact h))
 rintro _ _ ⟨p1, hl1, rfl, _, rfl⟩
 refine .ap ?_
 refine .w (.as (v' := it (fdK b 0)) (.conv_u64_i Tryz.underlying22 Tryz.underlying3 rfl (sm_i64 b 0)) (congrArg it (fdK_def b 0))) (.w (.fieldAddr fa_42_0 rfl) ?_)
 first | refine .s1 sz_3 ?_ | refine .sr1 sz_3 ?_
 rw [fld_set b 0 _ (by decide)]
 refine .nil (.tn (.seq (.region ?_)))
 refine .w (.move rfl) (.cb (f105_spec b9 u b p1 (rdK b 1) hl1 hb 255#64) body_105 ?_ (h0 := by rintro _ _ _ ⟨_, _, _, h, _⟩; exact h))
 rintro _ _ ⟨p2, hl2, rfl, _, rfl⟩
 refine .ap ?_
 refine .w (.as (v' := it (fdK b 1)) (.conv_u64_i Tryz.underlying22 Tryz.underlying3 rfl (sm_i64 b 1)) (congrArg it (fdK_def b 1))) (.w (.fieldAddr fa_42_1 rfl) ?_)
 first | refine .s1 sz_3 ?_ | refine .sr1 sz_3 ?_
 rw [fld_set b 1 _ (by decide)]
 refine .nil (.tn (.seq (.region ?_)))
 refine .w (.move rfl) (.cb (f105_spec b9 u b p2 (rdK b 2) hl2 hb 255#64) body_105 ?_ (h0 := by rintro _ _ _ ⟨_, _, _, h, _⟩; exact h))
 rintro _ _ ⟨p3, hl3, rfl, _, rfl⟩
 refine .ap ?_
 refine .w (.as (v' := it (fdK b 2)) (.conv_u64_i Tryz.underlying22 Tryz.underlying3 rfl (sm_i64 b 2)) (congrArg it (fdK_def b 2))) (.w (.fieldAddr fa_42_2 rfl) ?_)
 first | refine .s1 sz_3 ?_ | refine .sr1 sz_3 ?_
 rw [fld_set b 2 _ (by decide)]
 refine .nil (.tn (.seq (.region ?_)))
 refine .w (.move rfl) (.cb (f105_spec b9 u b p3 (rdK b 3) hl3 hb 255#64) body_105 ?_ (h0 := by rintro _ _ _ ⟨_, _, _, h, _⟩; exact h))
 rintro _ _ ⟨p4, hl4, rfl, _, rfl⟩
 refine .ap ?_
 refine .w (.as (v' := it (fdK b 3)) (.conv_u64_i Tryz.underlying22 Tryz.underlying3 rfl (sm_i64 b 3)) (congrArg it (fdK_def b 3))) (.w (.fieldAddr fa_42_3 rfl) ?_)
 first | refine .s1 sz_3 ?_ | refine .sr1 sz_3 ?_
 rw [fld_set b 3 _ (by decide)]
 refine .nil (.tn (.seq (.region ?_)))
 refine .w (.move rfl) (.cb (f106_spec b9 u b p4 (rdK b 4) hl4 hb) body_106 ?_ (h0 := by rintro _ _ _ ⟨_, _, h, _⟩; exact h))
 rintro v28 _ ⟨p5, hl5, _, rfl⟩
 refine .ap ?_
 rw [comK_def]
 refine JO.know (φ := v28.oneCell' = true) (fun w hs => (by obtain ⟨A, c, rfl, _⟩ := row_rd (by decide) (Res.row_ok.1 (hs.hok _ (.head _))); rfl)) fun h28 => ?_
 refine .w (.fieldAddr fa_42_4 rfl) ?_
 first | refine .s1 sz_38 ?_ | refine .s1s sz_38 ?_ | refine .sr1 sz_38 ?_
 rw [fld_v]
 refine .nil (.tn (.seq (.region ?_)))
 refine .w (.move rfl) (.cb (f107_spec b9 u b p5 (r5K b) hl5 hb) body_107 ?_ (h0 := by rintro _ _ _ ⟨_, _, _, h, _⟩; exact h))
 rintro _ _ ⟨p6, hl6, rfl, _, rfl⟩
 refine .ap ?_
 rw [valK_def]
 refine .w (.fieldAddr fa_42_5 rfl) (.so sz_40 ?_ (hm := (by rw [List.length_map]; exact valK_len b)) (h1 := (natsV_one _)))
 rw [fld_s b v28 (comK b) (valK_len b)]
 refine .nil (.tn (.seq (.region ?_)))
 refine .w (.move rfl) (.c (f108_spec b9 u b p6 ((r5K b).aft 32) hl6 hb) body_108 ?_)
 rw [endK_def]
 refine .w (.assign rfl) ?_
 refine .nil (.tn (.seq (.seq (.region ?_))))
 refine .w (.move rfl) (.w (.bin rfl rfl BinR.neq_i) ?_)
 refine .nil (.tn ?_)
 refine .cn rfl (fun hc1 => ?_) (fun hc1 => ?_)
 ·have he : decE b = endK b := decE_0 (fun h => hc1 h.1)
  have hne : decE b ≠ 0 := by rw [he]; exact hc1
  refine JC.nilRow 40 4 ?_
  refine .seq (.region ?_)
  refine .w (.as (v' := .agg (tbC (⟨0, 0, 0, 0, .slice none 0 0, [], [0, 0, 0, 0]⟩ : TB)).toArray) (.bd bld_42) (by rfl)) (.w (.move rfl) (.sa sz_42 ?_ (h1 := (tb_one (t := (⟨0, 0, 0, 0, .slice none 0 0, [], [0, 0, 0, 0]⟩ : TB)) rfl))))
  refine .w (.assign rfl) ?_
  refine .nil (.tn (.ret (.then_ret ?_)))
  exact .dn [] [Res.row (.slice none 0 0) 0 40 4 []] (res2 rfl (.cl agg_42) (.tmp rfl)) ⟨(⟨0, 0, 0, 0, .slice none 0 0, [], [0, 0, 0, 0]⟩ : TB), ⟨rfl, (fun _ h => absurd h List.not_mem_nil), by decide⟩, rfl, decK_1 hne, by rw [he], rfl, rfl⟩
 ·have hE0 : endK b = 0 := hc1
  refine .skip (.tn (.seq (.seq (.region ?_))))
  refine .w (.fieldAddr fa_42_0 rfl) (.w (.as (v' := it (fdK b 0)) (.ld one_3 rfl) (by rfl)) (.w (.bin rfl rfl BinR.lss_i) (.w (.move rfl) ?_)))
  refine .join 4 46 (.bool (decide (fdK b 0 < 1 ∨ fdK b 0 > 7))) ?_ ?_
  ·refine .gn (g := 41) rfl (fun hg51 hg51' => ?_) (fun hg51 hg51' => ?_)
   ·refine .gf (g := 42) rfl rfl hg51 (by decide) ?_
    refine .gf (g := 42) rfl rfl hg51 (by decide) ?_
    refine .gf (g := 42) rfl rfl hg51 (by decide) ?_
    refine .w (.pick1 rfl hg51 rfl) (.nil ?_)
    refine .head () zq0 (fun _ h => h) (Picks.perm zq1) ?_
    trivial
   ·refine .gt (g := 42) rfl rfl hg51 ?_
    refine .w (.fieldAddr fa_42_0 rfl) ?_
    refine .gt (g := 42) rfl rfl hg51 ?_
    refine .w (.as (v' := it (fdK b 0)) (.ld one_3 rfl) (by rfl)) ?_
    refine .gt (g := 42) rfl rfl hg51 ?_
    refine .w (.bin rfl rfl BinR.gtr_i) (.w (.pick0 rfl hg51 rfl) (.nil ?_))
    refine .head () zq0 (fun _ h => h) (Picks.perm zq1) ?_
    trivial
  ·refine .nil (.tn ?_)
   refine .cn rfl (fun hc2 => ?_) (fun hc2 => ?_)
   ·have he : decE b = 31 := decE_1 ⟨hE0, hc2⟩
    have hne : decE b ≠ 0 := by rw [he]; decide
    refine JC.nilRow 40 4 ?_
    refine .seq (.region ?_)
    refine .w (.as (v' := .agg (tbC (⟨0, 0, 0, 0, .slice none 0 0, [], [0, 0, 0, 0]⟩ : TB)).toArray) (.bd bld_42) (by rfl)) (.sa sz_42 ?_ (h1 := (tb_one (t := (⟨0, 0, 0, 0, .slice none 0 0, [], [0, 0, 0, 0]⟩ : TB)) rfl)))
    refine .w (.assign rfl) ?_
    refine .nil (.tn (.ret (.then_ret ?_)))
    exact .dn [] [Res.row (.slice none 0 0) 0 40 4 []] (res2 rfl (.cl agg_42) (.tmp rfl)) ⟨(⟨0, 0, 0, 0, .slice none 0 0, [], [0, 0, 0, 0]⟩ : TB), ⟨rfl, (fun _ h => absurd h List.not_mem_nil), by decide⟩, rfl, decK_1 hne, by rw [he], rfl, rfl⟩
   ·have h0 : decE b = 0 := (decE_0 (fun h => hc2 h.2)).trans hE0
    refine .skip (.tn (.seq (.region ?_)))
    refine .w (.lda agg_42 rfl) (.sa sz_42 ?_ (hm := (by rw [tbC_len]; exact congrArg (5 + ·) (valK_len b))) (h1 := (tb_one h28)))
    refine .w (.assign rfl) ?_
    refine .nil (.tn (.ret ?_))
    exact .dn [] [Res.row v28 (comK b).length 40 4 (natCells (comK b))] (res2 rfl (.cl agg_42) (.tmp rfl)) ⟨(⟨fdK b 0, fdK b 1, fdK b 2, fdK b 3, v28, comK b, valK b⟩ : TB), ⟨valK_len b, hdo.2, (show (comK b).length ≤ 1000000 by omega)⟩, h28, decK_0 h0 v28, by rw [h0], rfl, rfl⟩
end Go.Proofs.YtmhiapebljfebaaGreatDoor

/- Walk: are two one? -/
namespace Go.Proofs.YtmhiapebljfebaaGreatDoor
open Go.RowKit
set_option maxRecDepth 100000
set_option linter.unusedVariables false
set_option linter.unusedSimpArgs false
theorem f47_spec (a b : TB) (hoa : TBok a) (hob : TBok b) :
  Spec Tryz.prog 47 #[(.agg (tbC a).toArray), (.agg (tbC b).toArray)] [Res.rd a.v a.com.length 4 (natCells a.com), Res.rd b.v b.com.length 4 (natCells b.com)] []
   (fun r Γ' H' => r = (.bool (decide (a.key = b.key))) ∧ Γ' = [] ∧ H' = []) := by
 refine Spec.of_args Tryz.func47 rfl Tryz.ntmps47 (by simp) fun w => ?_
 obtain ⟨vq, hvq⟩ := vq_ex a.val b.val
 have ha4 := hoa.val
 have hb4 := hob.val
 have hal := hoa.len
 have hbl := hob.len
 refine .seq (.region ?_)
 refine .bx fun b2 => ?_
 refine JO.frz (r := Res.cells b2 (tbC a) 42) zq15 ?_
 refine .bx fun b3 => ?_
 refine JO.frz (r := Res.cells b3 (tbC b) 42) zq15 ?_
 refine .w (.assign rfl) ?_
 refine .nil (.tn (.seq (.seq (.region ?_))))
 refine .w (.fieldAddr fa_42_0 rfl) (.w (.ld one_3 rfl) (.w (.fieldAddr fa_42_0 rfl) (.w (.ld one_3 rfl) (.w (.bin rfl rfl BinR.neq_i) (.w (.move rfl) ?_)))))
 refine .join 6 17 (.bool (decide (a.kind ≠ b.kind ∨ a.frm ≠ b.frm))) ?_ ?_
 ·refine .gn (g := 10) rfl (fun hg10 hg10' => ?_) (fun hg10 hg10' => ?_)
  ·refine .gf (g := 11) rfl rfl hg10 (by decide) ?_
   refine .gf (g := 11) rfl rfl hg10 (by decide) ?_
   refine .gf (g := 11) rfl rfl hg10 (by decide) ?_
   refine .gf (g := 11) rfl rfl hg10 (by decide) ?_
   refine .gf (g := 11) rfl rfl hg10 (by decide) ?_
   refine .w (.pick1 rfl hg10 rfl) (.nil ?_)
   refine .head () zq0 (fun _ h => h) (Picks.perm zq1) ?_
   trivial
  ·refine .gt (g := 11) rfl rfl hg10 ?_
   refine .w (.fieldAddr fa_42_1 rfl) ?_
   refine .gt (g := 11) rfl rfl hg10 ?_
   refine .w (.ld one_3 rfl) ?_
   refine .gt (g := 11) rfl rfl hg10 ?_
   refine .w (.fieldAddr fa_42_1 rfl) ?_
   refine .gt (g := 11) rfl rfl hg10 ?_
   refine .w (.ld one_3 rfl) ?_
   refine .gt (g := 11) rfl rfl hg10 ?_
   refine .w (.bin rfl rfl BinR.neq_i) (.w (.pick0 rfl hg10 rfl) (.nil ?_))
   refine .head () zq0 (fun _ h => h) (Picks.perm zq1) ?_
   trivial
 ·refine .w (.move rfl) ?_
  refine .join 6 24 (.bool (decide (a.kind ≠ b.kind ∨ a.frm ≠ b.frm ∨ a.dealer ≠ b.dealer))) ?_ ?_
  ·refine .gn (g := 17) rfl (fun hg17 hg17' => ?_) (fun hg17 hg17' => ?_)
   ·refine .gf (g := 18) rfl rfl hg17 (by decide) ?_
    refine .gf (g := 18) rfl rfl hg17 (by decide) ?_
    refine .gf (g := 18) rfl rfl hg17 (by decide) ?_
    refine .gf (g := 18) rfl rfl hg17 (by decide) ?_
    refine .gf (g := 18) rfl rfl hg17 (by decide) ?_
    refine .w (.pick1 rfl hg17 rfl) (.nil ?_)
    refine .head () zq0 (fun _ h => h) (Picks.perm zq1) ?_
    trivial
   ·refine .gt (g := 18) rfl rfl hg17 ?_
    refine .w (.fieldAddr fa_42_2 rfl) ?_
    refine .gt (g := 18) rfl rfl hg17 ?_
    refine .w (.ld one_3 rfl) ?_
    refine .gt (g := 18) rfl rfl hg17 ?_
    refine .w (.fieldAddr fa_42_2 rfl) ?_
    refine .gt (g := 18) rfl rfl hg17 ?_
    refine .w (.ld one_3 rfl) ?_
    refine .gt (g := 18) rfl rfl hg17 ?_
    refine .w (.bin rfl rfl BinR.neq_i) (.w (.pick0 rfl hg17 rfl) (.nil ?_))
    refine .head () zq0 (fun _ h => h) (Picks.perm zq1) ?_
    trivial
  ·refine .w (.move rfl) ?_
   refine .join 6 31 (.bool (decide (a.kind ≠ b.kind ∨ a.frm ≠ b.frm ∨ a.dealer ≠ b.dealer ∨ a.slot ≠ b.slot))) ?_ ?_
   ·refine .gn (g := 24) rfl (fun hg24 hg24' => ?_) (fun hg24 hg24' => ?_)
    ·refine .gf (g := 25) rfl rfl hg24 (by decide) ?_
     refine .gf (g := 25) rfl rfl hg24 (by decide) ?_
     refine .gf (g := 25) rfl rfl hg24 (by decide) ?_
     refine .gf (g := 25) rfl rfl hg24 (by decide) ?_
     refine .gf (g := 25) rfl rfl hg24 (by decide) ?_
     refine .w (.pick1 rfl hg24 rfl) (.nil ?_)
     refine .head () zq0 (fun _ h => h) (Picks.perm zq1) ?_
     trivial
    ·refine .gt (g := 25) rfl rfl hg24 ?_
     refine .w (.fieldAddr fa_42_3 rfl) ?_
     refine .gt (g := 25) rfl rfl hg24 ?_
     refine .w (.ld one_3 rfl) ?_
     refine .gt (g := 25) rfl rfl hg24 ?_
     refine .w (.fieldAddr fa_42_3 rfl) ?_
     refine .gt (g := 25) rfl rfl hg24 ?_
     refine .w (.ld one_3 rfl) ?_
     refine .gt (g := 25) rfl rfl hg24 ?_
     refine .w (.bin rfl rfl BinR.neq_i) (.w (.pick0 rfl hg24 rfl) (.nil ?_))
     refine .head () zq0 (fun _ h => h) (Picks.perm zq1) ?_
     trivial
   ·refine .w (.move rfl) ?_
    refine .join 6 38 (.bool (decide (a.kind ≠ b.kind ∨ a.frm ≠ b.frm ∨ a.dealer ≠ b.dealer ∨ a.slot ≠ b.slot ∨ vq ≠ 0))) ?_ ?_
    ·refine .gn (g := 31) rfl (fun hg31 hg31' => ?_) (fun hg31 hg31' => ?_)
     ·refine .gf (g := 32) rfl rfl hg31 (by decide) ?_
      refine .gf (g := 32) rfl rfl hg31 (by decide) ?_
      refine .gf (g := 32) rfl rfl hg31 (by decide) ?_
      refine .gf (g := 32) rfl rfl hg31 (by decide) ?_
      refine .gf (g := 32) rfl rfl hg31 (by decide) ?_
      refine .w (.pick1 rfl hg31 rfl) (.nil ?_)
      refine .head () zq0 (fun _ h => h) (Picks.perm zq1) ?_
      trivial
     ·refine .gt (g := 32) rfl rfl hg31 ?_
      refine .w (.fieldAddr fa_42_5 rfl) ?_
      refine .gt (g := 32) rfl rfl hg31 ?_
      refine .w (.as (v' := .agg ((a.val).map u64).toArray) (.lda agg_40 rfl) (congrArg (fun l : List Value => Value.agg l.toArray) (tb_val hoa.val))) ?_
      refine .gt (g := 32) rfl rfl hg31 ?_
      refine .w (.fieldAddr fa_42_5 rfl) ?_
      refine .gt (g := 32) rfl rfl hg31 ?_
      refine .w (.as (v' := .agg ((b.val).map u64).toArray) (.lda agg_40 rfl) (congrArg (fun l : List Value => Value.agg l.toArray) (tb_val hob.val))) ?_
      refine .gt (g := 32) rfl rfl hg31 ?_
      refine .w (.as (v' := .bool (decide (vq ≠ 0))) (.bin rfl rfl (neq_nat (by first | exact hoa.val | exact h4a) (by first | exact hob.val | exact h4b))) (congrArg Value.bool (by rw [← decide_not]; exact decide_eq_decide.2 (not_congr hvq)))) (.w (.pick0 rfl hg31 rfl) (.nil ?_))
      refine .head () zq0 (fun _ h => h) (Picks.perm zq1) ?_
      trivial
    ·refine .w (.move rfl) ?_
     refine .join 8 47 (.bool (decide (a.kind ≠ b.kind ∨ a.frm ≠ b.frm ∨ a.dealer ≠ b.dealer ∨ a.slot ≠ b.slot ∨ vq ≠ 0 ∨ a.com.length ≠ b.com.length))) ?_ ?_
     ·refine .gn (g := 38) rfl (fun hg38 hg38' => ?_) (fun hg38 hg38' => ?_)
      ·refine .gf (g := 39) rfl rfl hg38 (by decide) ?_
       refine .gf (g := 39) rfl rfl hg38 (by decide) ?_
       refine .gf (g := 39) rfl rfl hg38 (by decide) ?_
       refine .gf (g := 39) rfl rfl hg38 (by decide) ?_
       refine .gf (g := 39) rfl rfl hg38 (by decide) ?_
       refine .gf (g := 39) rfl rfl hg38 (by decide) ?_
       refine .gf (g := 39) rfl rfl hg38 (by decide) ?_
       refine .w (.pick1 rfl hg38 rfl) (.nil ?_)
       refine .head () zq0 (fun _ h => h) (Picks.perm zq1) ?_
       trivial
      ·refine .gt (g := 39) rfl rfl hg38 ?_
       refine .w (.fieldAddr fa_42_4 rfl) ?_
       refine .gt (g := 39) rfl rfl hg38 ?_
       refine .w (.ld one_38 rfl) ?_
       refine .gt (g := 39) rfl rfl hg38 ?_
       refine .w (.len Tryz.underlying38 rfl) ?_
       refine .gt (g := 39) rfl rfl hg38 ?_
       refine .w (.fieldAddr fa_42_4 rfl) ?_
       refine .gt (g := 39) rfl rfl hg38 ?_
       refine .w (.ld one_38 rfl) ?_
       refine .gt (g := 39) rfl rfl hg38 ?_
       refine .w (.len Tryz.underlying38 rfl) ?_
       refine .gt (g := 39) rfl rfl hg38 ?_
       refine .w (.bin rfl rfl BinR.neq_i) (.w (.pick0 rfl hg38 rfl) (.nil ?_))
       refine .head () zq0 (fun _ h => h) (Picks.perm zq1) ?_
       trivial
     ·refine .nil (.tn ?_)
      refine .cn rfl (fun hc1 => ?_) (fun hc1 => ?_)
      ·have hne : ¬ a.key = b.key := fun h => by
        obtain ⟨k1, k2, k3, k4, k5, k6⟩ := tbkey_eq.1 h
        have k7 := congrArg List.length k5
        have k8 := hvq.1 k6
        omega
       refine .seq (.region ?_)
       refine .w (.assign rfl) ?_
       refine .nil (.tn (.ret (.then_ret ?_)))
       exact .dn [] [] (res1 rfl (.tmp rfl)) ⟨by rw [decide_eq_false hne], rfl, rfl⟩
      ·have hab : a.com.length = b.com.length := by omega
       refine .skip (.tn (.seq (.seq (.region ?_))))
       refine .w (.assign rfl) ?_
       refine .nil (.tn (.block ?_))
       refine .lp (ι := Nat) (fun x => x ≤ a.com.length ∧ ∀ j, j < x → a.com.getD j [] = b.com.getD j []) (fun T x => (5, it (x : Int)) :: T) (fun T _ => T) (fun T _ => T) (fun x => a.com.length - x) 0 [2, 3] ?_ (fun x hx => ?_)
       ·exact ⟨Nat.zero_le _, fun j hj => absurd hj (Nat.not_lt_zero _)⟩
       obtain ⟨k, hk⟩ : ∃ k, k = x := ⟨_, rfl⟩
       subst hk
       obtain ⟨hk, hall⟩ := hx
       refine .seq (.seq (.region ?_))
       refine .w (.move rfl) (.w (.fieldAddr fa_42_4 rfl) (.w (.ld one_38 rfl) (.w (.len Tryz.underlying38 rfl) (.w (.bin rfl rfl BinR.lss_i) ?_))))
       refine .nil (.tn ?_)
       refine .cn rfl (fun hc2 => ?_) (fun hc2 => ?_)
       ·have h4a := getD_mem4 hoa.com (k := k) (by omega)
        have h4b := getD_mem4 hob.com (k := k) (by omega)
        have hca := natCells_len hoa.com
        have hcb := natCells_len hob.com
        refine .skip (.tn (.seq (.block (.seq ?_))))
        refine JC.draw (.one 0 (.one 1 (.one 2 (.one 3 (.one 4 (.one 5 (.one 6 (.one 7 (.one 8 (.one 9 (.one 10 .nil))))))))))) (fun i => ([] : List Nat).contains i) (fun i => ([] : List Nat).contains i) (fun i => ([0, 2, 3, 4, 5, 7, 8, 9, 10] : List Nat).contains i) mixed (by kernel_rfl) (by decide) (by kernel_rfl) ?_
        refine .uw rfl (.fieldAddr fa_42_4 rfl) (.w rfl (.ld one_38 rfl) (.uw rfl (.move rfl) (.uw rfl (.ix Tryz.underlying38 sz_40 rfl rfl) (.uw rfl (.as (v' := .agg ((a.com.getD k []).map u64).toArray) (.lda agg_40 rfl (hm := by first | exact AM.own zq14 (by rw [hca]; omega) | exact AM.ro zq14 (by rw [hca]; omega) | exact AM.ownAt zq14 (by rw [hca]; omega) | exact AM.rd zq6 (by rw [hca]; omega) | exact AM.row zq7 (by rw [hca]; omega))) (congrArg (fun l : List Value => Value.agg l.toArray) (natCells_at hoa.com (by omega)))) (.uw rfl (.fieldAddr fa_42_4 rfl) (.w rfl (.ld one_38 rfl) ?_))))))
        refine .uw rfl (.move rfl) (.uw rfl (.ix Tryz.underlying38 sz_40 rfl rfl) (.uw rfl (.as (v' := .agg ((b.com.getD k []).map u64).toArray) (.lda agg_40 rfl) (congrArg (fun l : List Value => Value.agg l.toArray) (natCells_at hob.com (by omega)))) (.uw rfl (.bin rfl rfl (neq_nat (by first | exact hoa.val | exact h4a) (by first | exact hob.val | exact h4b))) ?_)))
        refine .nil (.tn ?_)
        refine .cn rfl (fun hc3 => ?_) (fun hc3 => ?_)
        ·have hne : ¬ a.key = b.key := fun h => by
          obtain ⟨k1, k2, k3, k4, k5, k6⟩ := tbkey_eq.1 h
          rw [k5] at hc3
          simp at hc3
         refine .seq (.region ?_)
         refine .w (.assign rfl) ?_
         refine .nil (.tn (.ret (.block_ret (.then_ret (.then_ret (.block_ret (.then_ret ?_)))))))
         exact .dn [] [] (res1 rfl (.tmp rfl)) ⟨by rw [decide_eq_false hne], rfl, rfl⟩
        ·try simp only [Bool.not_eq_true', decide_eq_false_iff_not, Decidable.not_not] at hc3
         refine .skip (.block_normal (.tn (.region ?_)))
         refine .w (.move rfl) (.w (.asI ((k + 1 : Nat) : Int) (.bin rfl rfl (BinR.add_i (by first | (constructor <;> omega) | (constructor <;> simp <;> omega))))) (.w (.assign rfl) (.nil ?_)))
         refine .hd (k + 1) ?_
         exact ⟨⟨by omega, fun j hj => by rcases Nat.lt_succ_iff_lt_or_eq.1 hj with h | rfl; exact hall j h; first | exact hc3 | exact Classical.not_not.1 hc3⟩, by omega⟩
       ·have heq : a.key = b.key := tbkey_eq.2 ⟨by omega, by omega, by omega, by omega, com_eq hab (fun j hj => hall j (by omega)), hvq.2 (by omega)⟩
        refine .exit (.then_exit (.then_exit (.block_exit (.tn (.seq (.region ?_))))))
        refine .w (.assign rfl) ?_
        refine .nil (.tn (.ret ?_))
        exact .dn [] [] (res1 rfl (.tmp rfl)) ⟨by rw [decide_eq_true heq], rfl, rfl⟩
end Go.Proofs.YtmhiapebljfebaaGreatDoor

/- The law EpochTxs. -/
namespace Go.Proofs.YtmhiapebljfebaaGreatDoor
open Go.RowKit
set_option maxRecDepth 100000
set_option linter.unusedVariables false
set_option linter.unusedSimpArgs false
theorem f8_spec (uv : Value) (t : TB) (hval : t.val.length = 4) (hcom : ∀ ws ∈ t.com, ws.length = 4) (hv1 : t.v.oneCell' = true) (b : B8) (c : Cfg) :
  Spec Tryz.prog 8 #[(.agg (tbC t).toArray), uv, (.agg (cfgC c).toArray)] [Res.var 0 ((wd 5).map u64), Res.var 1 ((wd 2).map u64), Res.var 2 ((wd 1).map u64), Res.var 3 ((wd 2).map u64), Res.rd t.v t.com.length 4 (natCells t.com), Res.rd uv b.length 1 (b.map u8)] []
   (fun r Γ' H' => r = (.bool true) ∧ Γ' = [] ∧ H' = []) := by
 refine Spec.of_args Tryz.func8 rfl Tryz.ntmps8 (by simp) fun w => ?_
 refine JC.know (φ := b.length ≤ 9223372036854775807) (fun w hs => by obtain ⟨_, _, _, _, _, _, h⟩ := hs.rdForm (.tail _ (.tail _ (.tail _ (.tail _ (.tail _ (.head _)))))); unfold maxLen at h; omega) fun hbl => ?_
 have h4 := hval
 refine .seq (.region ?_)
 refine .bx fun b3 => ?_
 refine JO.frz (r := Res.cells b3 (tbC t) 42) zq15 ?_
 refine .bx fun b5 => ?_
 refine .w (.assign rfl) ?_
 refine .nil (.tn (.seq (.region ?_)))
 refine .c (f9_spec) body_9 ?_
 refine .w (.assign rfl) ?_
 refine .nil (.tn (.seq (.seq (.region ?_))))
 refine .w (.fieldAddr fa_42_4 rfl) (.w (.ld one_38 rfl) (.w (.len Tryz.underlying38 rfl) (.w (.bin rfl rfl BinR.gtr_i) (.w (.move rfl) ?_))))
 refine .join 4 30 (.bool (decide (t.com.length > 25 ∨ b.length > 900))) ?_ ?_
 ·refine .gn (g := 25) rfl (fun hg11 hg11' => ?_) (fun hg11 hg11' => ?_)
  ·refine .gf (g := 26) rfl rfl hg11 (by decide) ?_
   refine .gf (g := 26) rfl rfl hg11 (by decide) ?_
   refine .gf (g := 26) rfl rfl hg11 (by decide) ?_
   refine .w (.pick1 rfl hg11 rfl) (.nil ?_)
   refine .head () zq0 (fun _ h => h) (Picks.perm zq1) ?_
   trivial
  ·refine .gt (g := 26) rfl rfl hg11 ?_
   refine .w (.move rfl) ?_
   refine .gt (g := 26) rfl rfl hg11 ?_
   refine .w (.len Tryz.underlying79 rfl) ?_
   refine .gt (g := 26) rfl rfl hg11 ?_
   refine .w (.bin rfl rfl BinR.gtr_i) (.w (.pick0 rfl hg11 rfl) (.nil ?_))
   refine .head () zq0 (fun _ h => h) (Picks.perm zq1) ?_
   trivial
 ·refine .nil (.tn ?_)
  refine .cn rfl (fun hc1 => ?_) (fun hc1 => ?_)
  ·skip
   refine .seq (.region ?_)
   refine .w (.move rfl) (.w (.assign rfl) ?_)
   refine .nil (.tn (.ret (.then_ret ?_)))
   exact .dn [] [] (res1 rfl (.tmp rfl)) ⟨rfl, rfl, rfl⟩
  ·have hok : TBok t := ⟨hval, hcom, by omega⟩
   have hL3 := txB_le t
   refine .skip (.tn (.seq (.region ?_)))
   refine .w (.lda agg_42 rfl) (.cb (f43_spec t hok hv1) body_43 ?_ (h0 := by rintro _ _ _ ⟨_, _, h, _⟩; exact h))
   rintro _ _ ⟨x1, rfl, _, rfl⟩
   refine .ap ?_
   refine .w (.move rfl) (.w (.as (v' := x1) (.extract rfl rfl) rfl) (.w (.as (v' := it (txE t)) (.extract rfl rfl) rfl) (.w (.assign rfl) (.w (.assign rfl) ?_))))
   refine .nil (.tn (.seq (.region ?_)))
   refine .w (.lda agg_42 rfl) (.cb (f44_spec t hok hv1) body_44 ?_ (h0 := by rintro _ _ _ ⟨_, _, h, _⟩; exact h))
   rintro _ _ ⟨x2, rfl, _, rfl⟩
   refine .ap ?_
   refine .w (.move rfl) (.w (.as (v' := x2) (.extract rfl rfl) rfl) (.w (.as (v' := it (txE t)) (.extract rfl rfl) rfl) (.w (.assign rfl) (.w (.assign rfl) ?_))))
   refine .nil (.tn (.seq (.region ?_)))
   refine .w (.move rfl) (.cb (f45_spec uv b (by omega)) body_45 ?_ (h0 := by rintro _ _ _ ⟨_, _, _, _, _, h, _⟩; exact h))
   rintro _ _ ⟨t1, ho1, hw1, hk1, rfl, _, rfl⟩
   refine .ap ?_
   refine JO.freeze (v := t1.v) zq15 (by decide) ?_
   have h14 := ho1.val
   refine .w (.move rfl) (.w (.as (v' := .agg (tbC t1).toArray) (.extract rfl rfl) (by rfl)) (.w (.as (v' := it (decE b)) (.extract rfl rfl) rfl) (.al zero_42 fun b12 => ?_)))
   refine .sa sz_42 ?_ (hm := (by rw [tbC_len, ho1.val])) (h1 := (tb_one hw1))
   refine JO.frz (r := Res.cells b12 (tbC t1) 42) zq15 ?_
   refine .w (.assign rfl) ?_
   refine .nil (.tn (.seq (.region ?_)))
   refine .w (.move rfl) (.cb (f46_spec uv b (by omega)) body_46 ?_ (h0 := by rintro _ _ _ ⟨_, _, _, _, _, h, _⟩; exact h))
   rintro _ _ ⟨t2, ho2, hw2, hk2, rfl, _, rfl⟩
   refine .ap ?_
   refine JO.freeze (v := t2.v) zq15 (by decide) ?_
   have h24 := ho2.val
   refine .w (.move rfl) (.w (.as (v' := .agg (tbC t2).toArray) (.extract rfl rfl) (by rfl)) (.w (.as (v' := it (decE b)) (.extract rfl rfl) rfl) (.al zero_42 fun b14 => ?_)))
   refine .sa sz_42 ?_ (hm := (by rw [tbC_len, ho2.val])) (h1 := (tb_one hw2))
   refine JO.frz (r := Res.cells b14 (tbC t2) 42) zq15 ?_
   refine .w (.assign rfl) ?_
   refine .nil (.tn (.seq (.region ?_)))
   refine .w (.lda agg_42 rfl) (.w (.lda agg_42 rfl) (.c (f47_spec t1 t2 ho1 ho2) body_47 ?_))
   rw [show decide (t1.key = t2.key) = true from decide_eq_true (hk1.trans hk2.symm)]
   refine .w (.assign rfl) ?_
   refine .nil (.tn (.seq (.region ?_)))
   refine .w (.as (v' := .agg (cfgC c).toArray) (.lda agg_24 rfl) (by rfl)) (.c (f48_spec c) body_48 ?_)
   refine .w (.assign rfl) ?_
   refine .nil (.tn (.seq (.seq (.region ?_))))
   refine .w (.move rfl) (.w (.bin rfl rfl BinR.eql_i) ?_)
   refine .nil (.tn ?_)
   refine .cn rfl (fun hc2 => ?_) (fun hc2 => ?_)
   ·have he0 : txE t = 0 := hc2
    refine JC.freeze (v := x1) zq15 (by decide) ?_
    refine .seq (.region ?_)
    refine .w (.move rfl) (.cb (f45_spec x1 (txO t) (by rw [txO, if_pos he0]; omega)) body_45 ?_ (h0 := by rintro _ _ _ ⟨_, _, _, _, _, h, _⟩; exact h))
    rintro _ _ ⟨t3, ho3, hw3, hk3, rfl, _, rfl⟩
    refine .ap ?_
    refine JO.freeze (v := t3.v) zq15 (by decide) ?_
    have h34 := ho3.val
    have hback := back_tx hok he0
    rw [show txB t = txO t from by rw [txO, if_pos he0]] at hback
    rw [hback.1]
    refine .w (.move rfl) (.w (.as (v' := .agg (tbC t3).toArray) (.extract rfl rfl) (by rfl)) (.w (.as (v' := it 0) (.extract rfl rfl) rfl) (.al zero_42 fun b18 => ?_)))
    refine .sa sz_42 ?_ (hm := (by rw [tbC_len, ho3.val])) (h1 := (tb_one hw3))
    refine JO.frz (r := Res.cells b18 (tbC t3) 42) zq15 ?_
    refine .w (.assign rfl) ?_
    refine .nil (.tn (.seq (.region ?_)))
    refine .w (.lda agg_42 rfl) (.w (.lda agg_42 rfl) (.c (f47_spec t t3 hok ho3) body_47 ?_))
    rw [show decide (t.key = t3.key) = true from decide_eq_true (by rw [hk3, hback.2])]
    refine .w (.assign rfl) ?_
    refine .nil (.tn (.seq (.region ?_)))
    refine .w (.move rfl) (.w (.as (v' := .bool false) (.bin rfl rfl BinR.neq_i) rfl) (.w (.move rfl) ?_))
    refine .gt (g := 69) rfl rfl rfl ?_
    refine .w (.move rfl) ?_
    refine .gt (g := 69) rfl rfl rfl ?_
    refine .w (.as (v' := .bool false) (.not rfl) rfl) (.w (.pick0 rfl rfl rfl) ?_)
    refine .nil (.tn ?_)
    refine .cf rfl ?_
    refine .skip (.tn (.seq (.region ?_)))
    refine .w (.move rfl) (.w (.move rfl) ?_)
    refine .gt (g := 74) rfl rfl rfl ?_
    refine .w (.move rfl) ?_
    refine .gt (g := 74) rfl rfl rfl ?_
    refine .w (.move rfl) ?_
    refine .gt (g := 74) rfl rfl rfl ?_
    refine .w (.as (v' := .bool true) (.bin rfl rfl BinR.eql_i) (congrArg Value.bool (decide_eq_true rfl))) (.w (.pick1 rfl rfl rfl) (.w (.move rfl) ?_))
    refine .gt (g := 79) rfl rfl rfl ?_
    refine .w (.move rfl) ?_
    refine .gt (g := 79) rfl rfl rfl ?_
    refine .w (.move rfl) ?_
    refine .gt (g := 79) rfl rfl rfl ?_
    refine .c (f49_spec x1 x2 (txO t) (txO t)) body_49 ?_
    rw [show decide (txO t = txO t) = true from decide_eq_true rfl]
    refine .w (.pick1 rfl rfl rfl) (.w (.move rfl) ?_)
    refine .gt (g := 84) rfl rfl rfl ?_
    refine .w (.move rfl) ?_
    refine .gt (g := 84) rfl rfl rfl ?_
    refine .w (.move rfl) ?_
    refine .gt (g := 84) rfl rfl rfl ?_
    refine .w (.as (v' := .bool true) (.bin rfl rfl BinR.eql_i) (congrArg Value.bool (decide_eq_true rfl))) (.w (.pick1 rfl rfl rfl) (.w (.move rfl) ?_))
    refine .gt (g := 89) rfl rfl rfl ?_
    refine .w (.move rfl) (.w (.pick1 rfl rfl rfl) (.w (.move rfl) ?_))
    refine .gt (g := 92) rfl rfl rfl ?_
    refine .w (.move rfl) ?_
    refine .gt (g := 92) rfl rfl rfl ?_
    refine .w (.as (v' := .agg (cfgC c).toArray) (.lda agg_24 rfl) (by rfl)) ?_
    refine .gt (g := 92) rfl rfl rfl ?_
    refine .c (f50_spec c) body_50 ?_
    refine .gt (g := 92) rfl rfl rfl ?_
    refine .w (.as (v' := .bool true) (.bin rfl rfl BinR.eql_i) (congrArg Value.bool (decide_eq_true rfl))) (.w (.pick1 rfl rfl rfl) (.w (.assign rfl) ?_))
    refine .nil (.tn (.ret ?_))
    exact .dn [] [] (res1 rfl (.tmp rfl)) ⟨rfl, rfl, rfl⟩
   ·refine JC.freeze (v := x1) zq15 (by decide) ?_
    refine .skip (.tn (.seq (.region ?_)))
    refine .w (.move rfl) (.w (.move rfl) ?_)
    refine .gt (g := 74) rfl rfl rfl ?_
    refine .w (.move rfl) ?_
    refine .gt (g := 74) rfl rfl rfl ?_
    refine .w (.move rfl) ?_
    refine .gt (g := 74) rfl rfl rfl ?_
    refine .w (.as (v' := .bool true) (.bin rfl rfl BinR.eql_i) (congrArg Value.bool (decide_eq_true rfl))) (.w (.pick1 rfl rfl rfl) (.w (.move rfl) ?_))
    refine .gt (g := 79) rfl rfl rfl ?_
    refine .w (.move rfl) ?_
    refine .gt (g := 79) rfl rfl rfl ?_
    refine .w (.move rfl) ?_
    refine .gt (g := 79) rfl rfl rfl ?_
    refine .c (f49_spec x1 x2 (txO t) (txO t)) body_49 ?_
    rw [show decide (txO t = txO t) = true from decide_eq_true rfl]
    refine .w (.pick1 rfl rfl rfl) (.w (.move rfl) ?_)
    refine .gt (g := 84) rfl rfl rfl ?_
    refine .w (.move rfl) ?_
    refine .gt (g := 84) rfl rfl rfl ?_
    refine .w (.move rfl) ?_
    refine .gt (g := 84) rfl rfl rfl ?_
    refine .w (.as (v' := .bool true) (.bin rfl rfl BinR.eql_i) (congrArg Value.bool (decide_eq_true rfl))) (.w (.pick1 rfl rfl rfl) (.w (.move rfl) ?_))
    refine .gt (g := 89) rfl rfl rfl ?_
    refine .w (.move rfl) (.w (.pick1 rfl rfl rfl) (.w (.move rfl) ?_))
    refine .gt (g := 92) rfl rfl rfl ?_
    refine .w (.move rfl) ?_
    refine .gt (g := 92) rfl rfl rfl ?_
    refine .w (.as (v' := .agg (cfgC c).toArray) (.lda agg_24 rfl) (by rfl)) ?_
    refine .gt (g := 92) rfl rfl rfl ?_
    refine .c (f50_spec c) body_50 ?_
    refine .gt (g := 92) rfl rfl rfl ?_
    refine .w (.as (v' := .bool true) (.bin rfl rfl BinR.eql_i) (congrArg Value.bool (decide_eq_true rfl))) (.w (.pick1 rfl rfl rfl) (.w (.assign rfl) ?_))
    refine .nil (.tn (.ret ?_))
    exact .dn [] [] (res1 rfl (.tmp rfl)) ⟨rfl, rfl, rfl⟩
end Go.Proofs.YtmhiapebljfebaaGreatDoor
