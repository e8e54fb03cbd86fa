/- Texts of ours, gathered: EH ED AW E33 LQ LB LBZ. -/
import Derived.Test.YtmhiapebljfebaaGreatDoorR10
set_option linter.unusedVariables false
set_option linter.unusedSimpArgs false
set_option maxRecDepth 100000
/- Walks: the small groups; lists of numbers compared. -/
namespace Go.Proofs.YtmhiapebljfebaaGreatDoor
open Go.RowKit
theorem zq20 {p : Prop} (h : p := by intro v hv; simp only [List.mem_cons, List.not_mem_nil, or_false] at hv; rcases hv with rfl | rfl | rfl <;> rfl) : p := h
theorem f18_spec (wh : Int) :
  Spec Tryz.prog 18 #[(it wh)] [] []
   (fun r Γ' H' => ∃ lv L, L.map PF.pd = (gd wh).L ∧ r = .tuple #[.agg (parC (gd wh).P (gd wh).Q (gd wh).G).toArray, lv] ∧ Γ' = [] ∧ H' = [Res.row lv L.length 120 9 (bks prfC L), Res.sep (facRows L)]) := by
 refine Spec.of_args Tryz.func18 rfl Tryz.ntmps18 (by simp) fun w => ?_
 refine .seq (.region ?_)
 refine .al zero_55 fun b2 => ?_
 refine .w (.assign rfl) ?_
 refine .nil (.tn (.seq (.region ?_)))
 refine .w (.as (v' := .agg ((wd 2).map u64).toArray) (.build bld_40 rfl rfl) (by rfl)) (.w (.build (cs := (facC (2, 1))) bld_117 rfl (by kernel_rfl)) (.al zero_117 fun b4 => ?_))
 refine .sa sz_117 ?_ (h1 := (FS.one (f := facC) _))
 refine JO.frz (r := Res.cells b4 (facC (2, 1)) 117) zq12 ?_
 refine .nil (.tn (.seq (.region ?_)))
 refine .w (.as (v' := .agg ((wd 3).map u64).toArray) (.build bld_40 rfl rfl) (by rfl)) (.w (.as (v' := .agg ((wd 2).map u64).toArray) (.build bld_40 rfl rfl) (by rfl)) (.w (.as (v' := .agg (facC (2, 1)).toArray) (.lda agg_117 rfl) (by rfl)) ?_))
 refine .ls Tryz.underlying118 info_117 (fun v21 => ?_) (hsz := (by intro v hv; simp only [List.mem_cons, List.not_mem_nil, or_false] at hv; rcases hv with rfl <;> rfl))
 rw [show List.flatMap (fun v : Value => v.cells.toList) [Value.agg (facC (2, 1)).toArray] = bks facC [(2, 1)] from rfl]
 refine JO.know (φ := ∃ (A : Option Addr) (c : Nat), v21 = .slice A 1 c) (fun w hs => (by obtain ⟨A, c, h, _⟩ := row_rd (by decide) (Res.row_ok.1 (hs.hok _ (.head _))); exact ⟨A, c, h⟩)) fun hf => ?_
 obtain ⟨A21, c21, rfl⟩ := hf
 refine .w (.as (v' := .agg (prfC (⟨3, 2, A21, 1, c21, [(2, 1)]⟩ : PF)).toArray) (.build (cs := ((wd 3).map u64 ++ ((wd 2).map u64 ++ [.slice A21 1 c21]))) bld_120 rfl (by kernel_rfl)) (congrArg (fun v => Value.agg ((wd 3).map u64 ++ ((wd 2).map u64 ++ [v])).toArray) (PF.v_eq (⟨3, 2, A21, 1, c21, [(2, 1)]⟩ : PF)).symm)) (.al zero_120 fun b5 => ?_)
 refine .sa sz_120 ?_ (h1 := (FS.one (f := prfC) _))
 refine JO.frz (r := Res.cells b5 (prfC (⟨3, 2, A21, 1, c21, [(2, 1)]⟩ : PF)) 120) zq12 ?_
 refine .nil (.tn (.seq (.region ?_)))
 refine .w (.as (v' := .agg ((wd 5).map u64).toArray) (.build bld_40 rfl rfl) (by rfl)) (.w (.as (v' := .agg ((wd 2).map u64).toArray) (.build bld_40 rfl rfl) (by rfl)) (.w (.as (v' := .agg ((wd 2).map u64).toArray) (.build bld_40 rfl rfl) (by rfl)) (.w (.build (cs := (facC (2, 2))) bld_117 rfl (by kernel_rfl)) ?_)))
 refine .ls Tryz.underlying118 info_117 (fun v27 => ?_) (hsz := (by intro v hv; simp only [List.mem_cons, List.not_mem_nil, or_false] at hv; rcases hv with rfl <;> rfl))
 rw [show List.flatMap (fun v : Value => v.cells.toList) [Value.agg (facC (2, 2)).toArray] = bks facC [(2, 2)] from rfl]
 refine JO.know (φ := ∃ (A : Option Addr) (c : Nat), v27 = .slice A 1 c) (fun w hs => (by obtain ⟨A, c, h, _⟩ := row_rd (by decide) (Res.row_ok.1 (hs.hok _ (.head _))); exact ⟨A, c, h⟩)) fun hf => ?_
 obtain ⟨A27, c27, rfl⟩ := hf
 refine .w (.as (v' := .agg (prfC (⟨5, 2, A27, 1, c27, [(2, 2)]⟩ : PF)).toArray) (.build (cs := ((wd 5).map u64 ++ ((wd 2).map u64 ++ [.slice A27 1 c27]))) bld_120 rfl (by kernel_rfl)) (congrArg (fun v => Value.agg ((wd 5).map u64 ++ ((wd 2).map u64 ++ [v])).toArray) (PF.v_eq (⟨5, 2, A27, 1, c27, [(2, 2)]⟩ : PF)).symm)) (.al zero_120 fun b6 => ?_)
 refine .sa sz_120 ?_ (h1 := (FS.one (f := prfC) _))
 refine JO.frz (r := Res.cells b6 (prfC (⟨5, 2, A27, 1, c27, [(2, 2)]⟩ : PF)) 120) zq12 ?_
 refine .nil (.tn (.seq (.seq (.region ?_))))
 refine .w (.move rfl) ?_
 refine .nil (.tn (.block (.seq (.region ?_))))
 refine .w (.bin rfl rfl BinR.eql_i) (.w (.assign rfl) ?_)
 refine .nil (.tn ?_)
 refine .cn rfl (fun hc1 => ?_) (fun hc1 => ?_)
 ·have hg : gd wh = gd 1 := by rw [hc1]
  refine .seq (.region ?_)
  refine .w (.as (v' := .agg ((wd 509).map u64).toArray) (.build bld_40 rfl rfl) (by rfl)) (.w (.as (v' := .agg ((wd 2).map u64).toArray) (.build bld_40 rfl rfl) (by rfl)) (.w (.as (v' := .agg ((wd 2).map u64).toArray) (.build bld_40 rfl rfl) (by rfl)) (.w (.build (cs := (facC (2, 2))) bld_117 rfl (by kernel_rfl)) (.w (.as (v' := .agg ((wd 127).map u64).toArray) (.build bld_40 rfl rfl) (by rfl)) (.w (.build (cs := (facC (127, 1))) bld_117 rfl (by kernel_rfl)) ?_)))))
  refine .ls Tryz.underlying118 info_117 (fun v38 => ?_) (hsz := zq16)
  rw [show List.flatMap (fun v : Value => v.cells.toList) [Value.agg (facC (2, 2)).toArray, Value.agg (facC (127, 1)).toArray] = bks facC [(2, 2), (127, 1)] from rfl]
  refine JO.know (φ := ∃ (A : Option Addr) (c : Nat), v38 = .slice A 2 c) (fun w hs => (by obtain ⟨A, c, h, _⟩ := row_rd (by decide) (Res.row_ok.1 (hs.hok _ (.head _))); exact ⟨A, c, h⟩)) fun hf => ?_
  obtain ⟨A38, c38, rfl⟩ := hf
  refine .w (.as (v' := .agg (prfC (⟨509, 2, A38, 2, c38, [(2, 2), (127, 1)]⟩ : PF)).toArray) (.build (cs := ((wd 509).map u64 ++ ((wd 2).map u64 ++ [.slice A38 2 c38]))) bld_120 rfl (by kernel_rfl)) (congrArg (fun v => Value.agg ((wd 509).map u64 ++ ((wd 2).map u64 ++ [v])).toArray) (PF.v_eq (⟨509, 2, A38, 2, c38, [(2, 2), (127, 1)]⟩ : PF)).symm)) (.al zero_120 fun b7 => ?_)
  refine .sa sz_120 ?_ (h1 := (FS.one (f := prfC) _))
  refine JO.frz (r := Res.cells b7 (prfC (⟨509, 2, A38, 2, c38, [(2, 2), (127, 1)]⟩ : PF)) 120) zq12 ?_
  refine .nil (.tn (.seq (.region ?_)))
  refine .w (.as (v' := .agg ((wd 127).map u64).toArray) (.build bld_40 rfl rfl) (by rfl)) (.w (.as (v' := .agg ((wd 3).map u64).toArray) (.build bld_40 rfl rfl) (by rfl)) (.w (.as (v' := .agg (facC (2, 1)).toArray) (.lda agg_117 rfl) (by rfl)) (.w (.as (v' := .agg ((wd 3).map u64).toArray) (.build bld_40 rfl rfl) (by rfl)) (.w (.build (cs := (facC (3, 2))) bld_117 rfl (by kernel_rfl)) (.w (.as (v' := .agg ((wd 7).map u64).toArray) (.build bld_40 rfl rfl) (by rfl)) (.w (.build (cs := (facC (7, 1))) bld_117 rfl (by kernel_rfl)) ?_))))))
  refine .ls Tryz.underlying118 info_117 (fun v47 => ?_) (hsz := zq20)
  rw [show List.flatMap (fun v : Value => v.cells.toList) [Value.agg (facC (2, 1)).toArray, Value.agg (facC (3, 2)).toArray, Value.agg (facC (7, 1)).toArray] = bks facC [(2, 1), (3, 2), (7, 1)] from rfl]
  refine JO.know (φ := ∃ (A : Option Addr) (c : Nat), v47 = .slice A 3 c) (fun w hs => (by obtain ⟨A, c, h, _⟩ := row_rd (by decide) (Res.row_ok.1 (hs.hok _ (.head _))); exact ⟨A, c, h⟩)) fun hf => ?_
  obtain ⟨A47, c47, rfl⟩ := hf
  refine .w (.as (v' := .agg (prfC (⟨127, 3, A47, 3, c47, [(2, 1), (3, 2), (7, 1)]⟩ : PF)).toArray) (.build (cs := ((wd 127).map u64 ++ ((wd 3).map u64 ++ [.slice A47 3 c47]))) bld_120 rfl (by kernel_rfl)) (congrArg (fun v => Value.agg ((wd 127).map u64 ++ ((wd 3).map u64 ++ [v])).toArray) (PF.v_eq (⟨127, 3, A47, 3, c47, [(2, 1), (3, 2), (7, 1)]⟩ : PF)).symm)) (.al zero_120 fun b8 => ?_)
  refine .sa sz_120 ?_ (h1 := (FS.one (f := prfC) _))
  refine JO.frz (r := Res.cells b8 (prfC (⟨127, 3, A47, 3, c47, [(2, 1), (3, 2), (7, 1)]⟩ : PF)) 120) zq12 ?_
  refine .nil (.tn (.seq (.region ?_)))
  refine .w (.as (v' := .agg ((wd 7).map u64).toArray) (.build bld_40 rfl rfl) (by rfl)) (.w (.as (v' := .agg ((wd 3).map u64).toArray) (.build bld_40 rfl rfl) (by rfl)) (.w (.as (v' := .agg (facC (2, 1)).toArray) (.lda agg_117 rfl) (by rfl)) (.w (.as (v' := .agg ((wd 3).map u64).toArray) (.build bld_40 rfl rfl) (by rfl)) (.w (.build (cs := (facC (3, 1))) bld_117 rfl (by kernel_rfl)) ?_))))
  refine .ls Tryz.underlying118 info_117 (fun v54 => ?_) (hsz := zq16)
  rw [show List.flatMap (fun v : Value => v.cells.toList) [Value.agg (facC (2, 1)).toArray, Value.agg (facC (3, 1)).toArray] = bks facC [(2, 1), (3, 1)] from rfl]
  refine JO.know (φ := ∃ (A : Option Addr) (c : Nat), v54 = .slice A 2 c) (fun w hs => (by obtain ⟨A, c, h, _⟩ := row_rd (by decide) (Res.row_ok.1 (hs.hok _ (.head _))); exact ⟨A, c, h⟩)) fun hf => ?_
  obtain ⟨A54, c54, rfl⟩ := hf
  refine .w (.as (v' := .agg (prfC (⟨7, 3, A54, 2, c54, [(2, 1), (3, 1)]⟩ : PF)).toArray) (.build (cs := ((wd 7).map u64 ++ ((wd 3).map u64 ++ [.slice A54 2 c54]))) bld_120 rfl (by kernel_rfl)) (congrArg (fun v => Value.agg ((wd 7).map u64 ++ ((wd 3).map u64 ++ [v])).toArray) (PF.v_eq (⟨7, 3, A54, 2, c54, [(2, 1), (3, 1)]⟩ : PF)).symm)) (.al zero_120 fun b9 => ?_)
  refine .sa sz_120 ?_ (h1 := (FS.one (f := prfC) _))
  refine JO.frz (r := Res.cells b9 (prfC (⟨7, 3, A54, 2, c54, [(2, 1), (3, 1)]⟩ : PF)) 120) zq12 ?_
  refine .nil (.tn (.seq (.region ?_)))
  refine .w (.as (v' := .agg ((wd 1019).map u64).toArray) (.build bld_40 rfl rfl) (by rfl)) (.w (.as (v' := .agg ((wd 2).map u64).toArray) (.build bld_40 rfl rfl) (by rfl)) (.w (.as (v' := .agg (facC (2, 1)).toArray) (.lda agg_117 rfl) (by rfl)) (.w (.as (v' := .agg ((wd 509).map u64).toArray) (.build bld_40 rfl rfl) (by rfl)) (.w (.build (cs := (facC (509, 1))) bld_117 rfl (by kernel_rfl)) ?_))))
  refine .ls Tryz.underlying118 info_117 (fun v61 => ?_) (hsz := zq16)
  rw [show List.flatMap (fun v : Value => v.cells.toList) [Value.agg (facC (2, 1)).toArray, Value.agg (facC (509, 1)).toArray] = bks facC [(2, 1), (509, 1)] from rfl]
  refine JO.know (φ := ∃ (A : Option Addr) (c : Nat), v61 = .slice A 2 c) (fun w hs => (by obtain ⟨A, c, h, _⟩ := row_rd (by decide) (Res.row_ok.1 (hs.hok _ (.head _))); exact ⟨A, c, h⟩)) fun hf => ?_
  obtain ⟨A61, c61, rfl⟩ := hf
  refine .w (.as (v' := .agg (prfC (⟨1019, 2, A61, 2, c61, [(2, 1), (509, 1)]⟩ : PF)).toArray) (.build (cs := ((wd 1019).map u64 ++ ((wd 2).map u64 ++ [.slice A61 2 c61]))) bld_120 rfl (by kernel_rfl)) (congrArg (fun v => Value.agg ((wd 1019).map u64 ++ ((wd 2).map u64 ++ [v])).toArray) (PF.v_eq (⟨1019, 2, A61, 2, c61, [(2, 1), (509, 1)]⟩ : PF)).symm)) (.al zero_120 fun b10 => ?_)
  refine .sa sz_120 ?_ (h1 := (FS.one (f := prfC) _))
  refine JO.frz (r := Res.cells b10 (prfC (⟨1019, 2, A61, 2, c61, [(2, 1), (509, 1)]⟩ : PF)) 120) zq12 ?_
  refine .nil (.tn (.seq ?_))
  refine JC.draw (.one 0 (.one 1 (.one 2 (.one 3 (.one 4 (.one 5 (.one 6 (.one 7 (.one 8 (.alt 9 (.one 10 (.one 11 .nil)) (.alt 10 (.one 9 (.one 11 .nil)) .nil))))))))))) (fun i => ([9, 10] : List Nat).contains i) (fun i => ([9, 10] : List Nat).contains i) (fun i => ([0, 1, 2, 3, 4, 5, 6, 7, 8, 11] : List Nat).contains i) mixed (by kernel_rfl) (by decide) (by kernel_rfl) ?_
  refine .uw rfl (.as (v' := .agg ((wd 2039).map u64).toArray) (.build bld_40 rfl rfl) (by rfl)) (.uw rfl (.as (v' := .agg ((wd 1019).map u64).toArray) (.build bld_40 rfl rfl) (by rfl)) (.uw rfl (.as (v' := .agg ((wd 4).map u64).toArray) (.build bld_40 rfl rfl) (by rfl)) (.uw rfl (.build (cs := (parC 2039 1019 4)) bld_55 rfl (by kernel_rfl)) (.uw rfl (.as (v' := .agg (prfC (⟨3, 2, A21, 1, c21, [(2, 1)]⟩ : PF)).toArray) (.lda agg_120 rfl) (by rfl)) (.uw rfl (.as (v' := .agg (prfC (⟨7, 3, A54, 2, c54, [(2, 1), (3, 1)]⟩ : PF)).toArray) (.lda agg_120 rfl) (by rfl)) (.uw rfl (.as (v' := .agg (prfC (⟨127, 3, A47, 3, c47, [(2, 1), (3, 2), (7, 1)]⟩ : PF)).toArray) (.lda agg_120 rfl) (by rfl)) ?_))))))
  refine .uw rfl (.as (v' := .agg (prfC (⟨509, 2, A38, 2, c38, [(2, 2), (127, 1)]⟩ : PF)).toArray) (.lda agg_120 rfl) (by rfl)) (.uw rfl (.as (v' := .agg (prfC (⟨1019, 2, A61, 2, c61, [(2, 1), (509, 1)]⟩ : PF)).toArray) (.lda agg_120 rfl) (by rfl)) ?_)
  refine JR.alt rfl ?_ ?_
  ·refine .mw rfl (.ls Tryz.underlying56 info_120 (hsz := (by intro v hv; simp only [List.mem_cons, List.not_mem_nil, or_false] at hv; rcases hv with rfl | rfl | rfl | rfl | rfl <;> rfl))) ?_
   rintro v72 _ _ ⟨rfl, rfl⟩
   refine kp ?_
   rw [show List.flatMap (fun v : Value => v.cells.toList) [Value.agg (prfC (⟨3, 2, A21, 1, c21, [(2, 1)]⟩ : PF)).toArray, Value.agg (prfC (⟨7, 3, A54, 2, c54, [(2, 1), (3, 1)]⟩ : PF)).toArray, Value.agg (prfC (⟨127, 3, A47, 3, c47, [(2, 1), (3, 2), (7, 1)]⟩ : PF)).toArray, Value.agg (prfC (⟨509, 2, A38, 2, c38, [(2, 2), (127, 1)]⟩ : PF)).toArray, Value.agg (prfC (⟨1019, 2, A61, 2, c61, [(2, 1), (509, 1)]⟩ : PF)).toArray] = bks prfC [(⟨3, 2, A21, 1, c21, [(2, 1)]⟩ : PF), (⟨7, 3, A54, 2, c54, [(2, 1), (3, 1)]⟩ : PF), (⟨127, 3, A47, 3, c47, [(2, 1), (3, 2), (7, 1)]⟩ : PF), (⟨509, 2, A38, 2, c38, [(2, 2), (127, 1)]⟩ : PF), (⟨1019, 2, A61, 2, c61, [(2, 1), (509, 1)]⟩ : PF)] from rfl]
   refine .mw0 rfl (.sa sz_55 (h1 := (par_one _ _ _))) ?_
   rintro _ _ _ ⟨rfl, rfl⟩
   refine kp ?_
   refine .uw rfl (.assign rfl) ?_
   refine .nil (.tn (.ret (.block_ret (.then_ret ?_))))
   refine .sp0 ?_
   refine .rs (A := [Res.row (.slice A21 1 c21) [(2, 1)].length 117 5 (bks facC [(2, 1)]), Res.row (.slice A54 2 c54) [(2, 1), (3, 1)].length 117 5 (bks facC [(2, 1), (3, 1)]), Res.row (.slice A47 3 c47) [(2, 1), (3, 2), (7, 1)].length 117 5 (bks facC [(2, 1), (3, 2), (7, 1)]), Res.row (.slice A38 2 c38) [(2, 2), (127, 1)].length 117 5 (bks facC [(2, 2), (127, 1)]), Res.row (.slice A61 2 c61) [(2, 1), (509, 1)].length 117 5 (bks facC [(2, 1), (509, 1)])]) (B := []) (L := facRows [(⟨3, 2, A21, 1, c21, [(2, 1)]⟩ : PF), (⟨7, 3, A54, 2, c54, [(2, 1), (3, 1)]⟩ : PF), (⟨127, 3, A47, 3, c47, [(2, 1), (3, 2), (7, 1)]⟩ : PF), (⟨509, 2, A38, 2, c38, [(2, 2), (127, 1)]⟩ : PF), (⟨1019, 2, A61, 2, c61, [(2, 1), (509, 1)]⟩ : PF)]) (by rw [List.append_nil]; simp only [facRows, List.map_cons, List.map_nil, PF.v_eq]; exact List.Perm.refl _) ?_
   exact .dn [] [Res.row v72 [(⟨3, 2, A21, 1, c21, [(2, 1)]⟩ : PF), (⟨7, 3, A54, 2, c54, [(2, 1), (3, 1)]⟩ : PF), (⟨127, 3, A47, 3, c47, [(2, 1), (3, 2), (7, 1)]⟩ : PF), (⟨509, 2, A38, 2, c38, [(2, 2), (127, 1)]⟩ : PF), (⟨1019, 2, A61, 2, c61, [(2, 1), (509, 1)]⟩ : PF)].length 120 9 (bks prfC [(⟨3, 2, A21, 1, c21, [(2, 1)]⟩ : PF), (⟨7, 3, A54, 2, c54, [(2, 1), (3, 1)]⟩ : PF), (⟨127, 3, A47, 3, c47, [(2, 1), (3, 2), (7, 1)]⟩ : PF), (⟨509, 2, A38, 2, c38, [(2, 2), (127, 1)]⟩ : PF), (⟨1019, 2, A61, 2, c61, [(2, 1), (509, 1)]⟩ : PF)]), Res.sep (facRows [(⟨3, 2, A21, 1, c21, [(2, 1)]⟩ : PF), (⟨7, 3, A54, 2, c54, [(2, 1), (3, 1)]⟩ : PF), (⟨127, 3, A47, 3, c47, [(2, 1), (3, 2), (7, 1)]⟩ : PF), (⟨509, 2, A38, 2, c38, [(2, 2), (127, 1)]⟩ : PF), (⟨1019, 2, A61, 2, c61, [(2, 1), (509, 1)]⟩ : PF)])] (res2 rfl (.cl agg_55) (.tmp rfl)) ⟨v72, [(⟨3, 2, A21, 1, c21, [(2, 1)]⟩ : PF), (⟨7, 3, A54, 2, c54, [(2, 1), (3, 1)]⟩ : PF), (⟨127, 3, A47, 3, c47, [(2, 1), (3, 2), (7, 1)]⟩ : PF), (⟨509, 2, A38, 2, c38, [(2, 2), (127, 1)]⟩ : PF), (⟨1019, 2, A61, 2, c61, [(2, 1), (509, 1)]⟩ : PF)], by rw [hg]; rfl, by rw [hg]; rfl, rfl, rfl⟩
  refine JA.alt rfl ?_ ?_
  ·refine .mw0 rfl (.sa sz_55 (h1 := (par_one _ _ _))) ?_
   rintro _ _ _ ⟨rfl, rfl⟩
   refine kp ?_
   refine .mw rfl (.ls Tryz.underlying56 info_120 (hsz := (by intro v hv; simp only [List.mem_cons, List.not_mem_nil, or_false] at hv; rcases hv with rfl | rfl | rfl | rfl | rfl <;> rfl))) ?_
   rintro v72 _ _ ⟨rfl, rfl⟩
   refine kp ?_
   rw [show List.flatMap (fun v : Value => v.cells.toList) [Value.agg (prfC (⟨3, 2, A21, 1, c21, [(2, 1)]⟩ : PF)).toArray, Value.agg (prfC (⟨7, 3, A54, 2, c54, [(2, 1), (3, 1)]⟩ : PF)).toArray, Value.agg (prfC (⟨127, 3, A47, 3, c47, [(2, 1), (3, 2), (7, 1)]⟩ : PF)).toArray, Value.agg (prfC (⟨509, 2, A38, 2, c38, [(2, 2), (127, 1)]⟩ : PF)).toArray, Value.agg (prfC (⟨1019, 2, A61, 2, c61, [(2, 1), (509, 1)]⟩ : PF)).toArray] = bks prfC [(⟨3, 2, A21, 1, c21, [(2, 1)]⟩ : PF), (⟨7, 3, A54, 2, c54, [(2, 1), (3, 1)]⟩ : PF), (⟨127, 3, A47, 3, c47, [(2, 1), (3, 2), (7, 1)]⟩ : PF), (⟨509, 2, A38, 2, c38, [(2, 2), (127, 1)]⟩ : PF), (⟨1019, 2, A61, 2, c61, [(2, 1), (509, 1)]⟩ : PF)] from rfl]
   refine .uw rfl (.assign rfl) ?_
   refine .nil (.tn (.ret (.block_ret (.then_ret ?_))))
   refine .sp0 ?_
   refine .rs (A := [Res.row (.slice A21 1 c21) [(2, 1)].length 117 5 (bks facC [(2, 1)]), Res.row (.slice A54 2 c54) [(2, 1), (3, 1)].length 117 5 (bks facC [(2, 1), (3, 1)]), Res.row (.slice A47 3 c47) [(2, 1), (3, 2), (7, 1)].length 117 5 (bks facC [(2, 1), (3, 2), (7, 1)]), Res.row (.slice A38 2 c38) [(2, 2), (127, 1)].length 117 5 (bks facC [(2, 2), (127, 1)]), Res.row (.slice A61 2 c61) [(2, 1), (509, 1)].length 117 5 (bks facC [(2, 1), (509, 1)])]) (B := []) (L := facRows [(⟨3, 2, A21, 1, c21, [(2, 1)]⟩ : PF), (⟨7, 3, A54, 2, c54, [(2, 1), (3, 1)]⟩ : PF), (⟨127, 3, A47, 3, c47, [(2, 1), (3, 2), (7, 1)]⟩ : PF), (⟨509, 2, A38, 2, c38, [(2, 2), (127, 1)]⟩ : PF), (⟨1019, 2, A61, 2, c61, [(2, 1), (509, 1)]⟩ : PF)]) (by rw [List.append_nil]; simp only [facRows, List.map_cons, List.map_nil, PF.v_eq]; exact List.Perm.refl _) ?_
   exact .dn [] [Res.row v72 [(⟨3, 2, A21, 1, c21, [(2, 1)]⟩ : PF), (⟨7, 3, A54, 2, c54, [(2, 1), (3, 1)]⟩ : PF), (⟨127, 3, A47, 3, c47, [(2, 1), (3, 2), (7, 1)]⟩ : PF), (⟨509, 2, A38, 2, c38, [(2, 2), (127, 1)]⟩ : PF), (⟨1019, 2, A61, 2, c61, [(2, 1), (509, 1)]⟩ : PF)].length 120 9 (bks prfC [(⟨3, 2, A21, 1, c21, [(2, 1)]⟩ : PF), (⟨7, 3, A54, 2, c54, [(2, 1), (3, 1)]⟩ : PF), (⟨127, 3, A47, 3, c47, [(2, 1), (3, 2), (7, 1)]⟩ : PF), (⟨509, 2, A38, 2, c38, [(2, 2), (127, 1)]⟩ : PF), (⟨1019, 2, A61, 2, c61, [(2, 1), (509, 1)]⟩ : PF)]), Res.sep (facRows [(⟨3, 2, A21, 1, c21, [(2, 1)]⟩ : PF), (⟨7, 3, A54, 2, c54, [(2, 1), (3, 1)]⟩ : PF), (⟨127, 3, A47, 3, c47, [(2, 1), (3, 2), (7, 1)]⟩ : PF), (⟨509, 2, A38, 2, c38, [(2, 2), (127, 1)]⟩ : PF), (⟨1019, 2, A61, 2, c61, [(2, 1), (509, 1)]⟩ : PF)])] (res2 rfl (.cl agg_55) (.tmp rfl)) ⟨v72, [(⟨3, 2, A21, 1, c21, [(2, 1)]⟩ : PF), (⟨7, 3, A54, 2, c54, [(2, 1), (3, 1)]⟩ : PF), (⟨127, 3, A47, 3, c47, [(2, 1), (3, 2), (7, 1)]⟩ : PF), (⟨509, 2, A38, 2, c38, [(2, 2), (127, 1)]⟩ : PF), (⟨1019, 2, A61, 2, c61, [(2, 1), (509, 1)]⟩ : PF)], by rw [hg]; rfl, by rw [hg]; rfl, rfl, rfl⟩
  exact JA.nil
 ·skip
  refine .seq (.region ?_)
  refine .w (.bin rfl rfl BinR.eql_i) (.w (.assign rfl) ?_)
  refine .nil (.tn ?_)
  refine .cn rfl (fun hc2 => ?_) (fun hc2 => ?_)
  ·have hg : gd wh = gd 2 := by rw [hc2]
   refine .seq (.region ?_)
   refine .w (.as (v' := .agg ((wd 41).map u64).toArray) (.build bld_40 rfl rfl) (by rfl)) (.w (.as (v' := .agg ((wd 6).map u64).toArray) (.build bld_40 rfl rfl) (by rfl)) (.w (.as (v' := .agg ((wd 2).map u64).toArray) (.build bld_40 rfl rfl) (by rfl)) (.w (.build (cs := (facC (2, 3))) bld_117 rfl (by kernel_rfl)) (.w (.as (v' := .agg ((wd 5).map u64).toArray) (.build bld_40 rfl rfl) (by rfl)) (.w (.build (cs := (facC (5, 1))) bld_117 rfl (by kernel_rfl)) ?_)))))
   refine .ls Tryz.underlying118 info_117 (fun v81 => ?_) (hsz := zq16)
   rw [show List.flatMap (fun v : Value => v.cells.toList) [Value.agg (facC (2, 3)).toArray, Value.agg (facC (5, 1)).toArray] = bks facC [(2, 3), (5, 1)] from rfl]
   refine JO.know (φ := ∃ (A : Option Addr) (c : Nat), v81 = .slice A 2 c) (fun w hs => (by obtain ⟨A, c, h, _⟩ := row_rd (by decide) (Res.row_ok.1 (hs.hok _ (.head _))); exact ⟨A, c, h⟩)) fun hf => ?_
   obtain ⟨A81, c81, rfl⟩ := hf
   refine .w (.as (v' := .agg (prfC (⟨41, 6, A81, 2, c81, [(2, 3), (5, 1)]⟩ : PF)).toArray) (.build (cs := ((wd 41).map u64 ++ ((wd 6).map u64 ++ [.slice A81 2 c81]))) bld_120 rfl (by kernel_rfl)) (congrArg (fun v => Value.agg ((wd 41).map u64 ++ ((wd 6).map u64 ++ [v])).toArray) (PF.v_eq (⟨41, 6, A81, 2, c81, [(2, 3), (5, 1)]⟩ : PF)).symm)) (.al zero_120 fun b11 => ?_)
   refine .sa sz_120 ?_ (h1 := (FS.one (f := prfC) _))
   refine JO.frz (r := Res.cells b11 (prfC (⟨41, 6, A81, 2, c81, [(2, 3), (5, 1)]⟩ : PF)) 120) zq12 ?_
   refine .nil (.tn (.seq (.region ?_)))
   refine .w (.as (v' := .agg ((wd 83).map u64).toArray) (.build bld_40 rfl rfl) (by rfl)) (.w (.as (v' := .agg ((wd 2).map u64).toArray) (.build bld_40 rfl rfl) (by rfl)) (.w (.as (v' := .agg (facC (2, 1)).toArray) (.lda agg_117 rfl) (by rfl)) (.w (.as (v' := .agg ((wd 41).map u64).toArray) (.build bld_40 rfl rfl) (by rfl)) (.w (.build (cs := (facC (41, 1))) bld_117 rfl (by kernel_rfl)) ?_))))
   refine .ls Tryz.underlying118 info_117 (fun v88 => ?_) (hsz := zq16)
   rw [show List.flatMap (fun v : Value => v.cells.toList) [Value.agg (facC (2, 1)).toArray, Value.agg (facC (41, 1)).toArray] = bks facC [(2, 1), (41, 1)] from rfl]
   refine JO.know (φ := ∃ (A : Option Addr) (c : Nat), v88 = .slice A 2 c) (fun w hs => (by obtain ⟨A, c, h, _⟩ := row_rd (by decide) (Res.row_ok.1 (hs.hok _ (.head _))); exact ⟨A, c, h⟩)) fun hf => ?_
   obtain ⟨A88, c88, rfl⟩ := hf
   refine .w (.as (v' := .agg (prfC (⟨83, 2, A88, 2, c88, [(2, 1), (41, 1)]⟩ : PF)).toArray) (.build (cs := ((wd 83).map u64 ++ ((wd 2).map u64 ++ [.slice A88 2 c88]))) bld_120 rfl (by kernel_rfl)) (congrArg (fun v => Value.agg ((wd 83).map u64 ++ ((wd 2).map u64 ++ [v])).toArray) (PF.v_eq (⟨83, 2, A88, 2, c88, [(2, 1), (41, 1)]⟩ : PF)).symm)) (.al zero_120 fun b12 => ?_)
   refine .sa sz_120 ?_ (h1 := (FS.one (f := prfC) _))
   refine JO.frz (r := Res.cells b12 (prfC (⟨83, 2, A88, 2, c88, [(2, 1), (41, 1)]⟩ : PF)) 120) zq12 ?_
   refine .nil (.tn (.seq ?_))
   refine JC.draw (.one 0 (.one 1 (.one 2 (.one 3 (.one 4 (.one 5 (.one 6 (.alt 7 (.one 8 (.one 9 .nil)) (.alt 8 (.one 7 (.one 9 .nil)) .nil))))))))) (fun i => ([7, 8] : List Nat).contains i) (fun i => ([7, 8] : List Nat).contains i) (fun i => ([0, 1, 2, 3, 4, 5, 6, 9] : List Nat).contains i) mixed (by kernel_rfl) (by decide) (by kernel_rfl) ?_
   refine .uw rfl (.as (v' := .agg ((wd 167).map u64).toArray) (.build bld_40 rfl rfl) (by rfl)) (.uw rfl (.as (v' := .agg ((wd 83).map u64).toArray) (.build bld_40 rfl rfl) (by rfl)) (.uw rfl (.as (v' := .agg ((wd 4).map u64).toArray) (.build bld_40 rfl rfl) (by rfl)) (.uw rfl (.build (cs := (parC 167 83 4)) bld_55 rfl (by kernel_rfl)) (.uw rfl (.as (v' := .agg (prfC (⟨5, 2, A27, 1, c27, [(2, 2)]⟩ : PF)).toArray) (.lda agg_120 rfl) (by rfl)) (.uw rfl (.as (v' := .agg (prfC (⟨41, 6, A81, 2, c81, [(2, 3), (5, 1)]⟩ : PF)).toArray) (.lda agg_120 rfl) (by rfl)) (.uw rfl (.as (v' := .agg (prfC (⟨83, 2, A88, 2, c88, [(2, 1), (41, 1)]⟩ : PF)).toArray) (.lda agg_120 rfl) (by rfl)) ?_))))))
   refine JR.alt rfl ?_ ?_
   ·refine .mw rfl (.ls Tryz.underlying56 info_120 (hsz := zq20)) ?_
    rintro v97 _ _ ⟨rfl, rfl⟩
    refine kp ?_
    rw [show List.flatMap (fun v : Value => v.cells.toList) [Value.agg (prfC (⟨5, 2, A27, 1, c27, [(2, 2)]⟩ : PF)).toArray, Value.agg (prfC (⟨41, 6, A81, 2, c81, [(2, 3), (5, 1)]⟩ : PF)).toArray, Value.agg (prfC (⟨83, 2, A88, 2, c88, [(2, 1), (41, 1)]⟩ : PF)).toArray] = bks prfC [(⟨5, 2, A27, 1, c27, [(2, 2)]⟩ : PF), (⟨41, 6, A81, 2, c81, [(2, 3), (5, 1)]⟩ : PF), (⟨83, 2, A88, 2, c88, [(2, 1), (41, 1)]⟩ : PF)] from rfl]
    refine .mw0 rfl (.sa sz_55 (h1 := (par_one _ _ _))) ?_
    rintro _ _ _ ⟨rfl, rfl⟩
    refine kp ?_
    refine .uw rfl (.assign rfl) ?_
    refine .nil (.tn (.ret (.block_ret (.then_ret ?_))))
    refine .sp0 ?_
    refine .rs (A := [Res.row (.slice A27 1 c27) [(2, 2)].length 117 5 (bks facC [(2, 2)]), Res.row (.slice A81 2 c81) [(2, 3), (5, 1)].length 117 5 (bks facC [(2, 3), (5, 1)]), Res.row (.slice A88 2 c88) [(2, 1), (41, 1)].length 117 5 (bks facC [(2, 1), (41, 1)])]) (B := []) (L := facRows [(⟨5, 2, A27, 1, c27, [(2, 2)]⟩ : PF), (⟨41, 6, A81, 2, c81, [(2, 3), (5, 1)]⟩ : PF), (⟨83, 2, A88, 2, c88, [(2, 1), (41, 1)]⟩ : PF)]) (by rw [List.append_nil]; simp only [facRows, List.map_cons, List.map_nil, PF.v_eq]; exact List.Perm.refl _) ?_
    exact .dn [] [Res.row v97 [(⟨5, 2, A27, 1, c27, [(2, 2)]⟩ : PF), (⟨41, 6, A81, 2, c81, [(2, 3), (5, 1)]⟩ : PF), (⟨83, 2, A88, 2, c88, [(2, 1), (41, 1)]⟩ : PF)].length 120 9 (bks prfC [(⟨5, 2, A27, 1, c27, [(2, 2)]⟩ : PF), (⟨41, 6, A81, 2, c81, [(2, 3), (5, 1)]⟩ : PF), (⟨83, 2, A88, 2, c88, [(2, 1), (41, 1)]⟩ : PF)]), Res.sep (facRows [(⟨5, 2, A27, 1, c27, [(2, 2)]⟩ : PF), (⟨41, 6, A81, 2, c81, [(2, 3), (5, 1)]⟩ : PF), (⟨83, 2, A88, 2, c88, [(2, 1), (41, 1)]⟩ : PF)])] (res2 rfl (.cl agg_55) (.tmp rfl)) ⟨v97, [(⟨5, 2, A27, 1, c27, [(2, 2)]⟩ : PF), (⟨41, 6, A81, 2, c81, [(2, 3), (5, 1)]⟩ : PF), (⟨83, 2, A88, 2, c88, [(2, 1), (41, 1)]⟩ : PF)], by rw [hg]; rfl, by rw [hg]; rfl, rfl, rfl⟩
   refine JA.alt rfl ?_ ?_
   ·refine .mw0 rfl (.sa sz_55 (h1 := (par_one _ _ _))) ?_
    rintro _ _ _ ⟨rfl, rfl⟩
    refine kp ?_
    refine .mw rfl (.ls Tryz.underlying56 info_120 (hsz := zq20)) ?_
    rintro v97 _ _ ⟨rfl, rfl⟩
    refine kp ?_
    rw [show List.flatMap (fun v : Value => v.cells.toList) [Value.agg (prfC (⟨5, 2, A27, 1, c27, [(2, 2)]⟩ : PF)).toArray, Value.agg (prfC (⟨41, 6, A81, 2, c81, [(2, 3), (5, 1)]⟩ : PF)).toArray, Value.agg (prfC (⟨83, 2, A88, 2, c88, [(2, 1), (41, 1)]⟩ : PF)).toArray] = bks prfC [(⟨5, 2, A27, 1, c27, [(2, 2)]⟩ : PF), (⟨41, 6, A81, 2, c81, [(2, 3), (5, 1)]⟩ : PF), (⟨83, 2, A88, 2, c88, [(2, 1), (41, 1)]⟩ : PF)] from rfl]
    refine .uw rfl (.assign rfl) ?_
    refine .nil (.tn (.ret (.block_ret (.then_ret ?_))))
    refine .sp0 ?_
    refine .rs (A := [Res.row (.slice A27 1 c27) [(2, 2)].length 117 5 (bks facC [(2, 2)]), Res.row (.slice A81 2 c81) [(2, 3), (5, 1)].length 117 5 (bks facC [(2, 3), (5, 1)]), Res.row (.slice A88 2 c88) [(2, 1), (41, 1)].length 117 5 (bks facC [(2, 1), (41, 1)])]) (B := []) (L := facRows [(⟨5, 2, A27, 1, c27, [(2, 2)]⟩ : PF), (⟨41, 6, A81, 2, c81, [(2, 3), (5, 1)]⟩ : PF), (⟨83, 2, A88, 2, c88, [(2, 1), (41, 1)]⟩ : PF)]) (by rw [List.append_nil]; simp only [facRows, List.map_cons, List.map_nil, PF.v_eq]; exact List.Perm.refl _) ?_
    exact .dn [] [Res.row v97 [(⟨5, 2, A27, 1, c27, [(2, 2)]⟩ : PF), (⟨41, 6, A81, 2, c81, [(2, 3), (5, 1)]⟩ : PF), (⟨83, 2, A88, 2, c88, [(2, 1), (41, 1)]⟩ : PF)].length 120 9 (bks prfC [(⟨5, 2, A27, 1, c27, [(2, 2)]⟩ : PF), (⟨41, 6, A81, 2, c81, [(2, 3), (5, 1)]⟩ : PF), (⟨83, 2, A88, 2, c88, [(2, 1), (41, 1)]⟩ : PF)]), Res.sep (facRows [(⟨5, 2, A27, 1, c27, [(2, 2)]⟩ : PF), (⟨41, 6, A81, 2, c81, [(2, 3), (5, 1)]⟩ : PF), (⟨83, 2, A88, 2, c88, [(2, 1), (41, 1)]⟩ : PF)])] (res2 rfl (.cl agg_55) (.tmp rfl)) ⟨v97, [(⟨5, 2, A27, 1, c27, [(2, 2)]⟩ : PF), (⟨41, 6, A81, 2, c81, [(2, 3), (5, 1)]⟩ : PF), (⟨83, 2, A88, 2, c88, [(2, 1), (41, 1)]⟩ : PF)], by rw [hg]; rfl, by rw [hg]; rfl, rfl, rfl⟩
   exact JA.nil
  ·skip
   refine .seq (.region ?_)
   refine .w (.bin rfl rfl BinR.eql_i) (.w (.assign rfl) ?_)
   refine .nil (.tn ?_)
   refine .cn rfl (fun hc3 => ?_) (fun hc3 => ?_)
   ·have hg : gd wh = gd 3 := by rw [hc3]
    refine .seq (.region ?_)
    refine .w (.as (v' := .agg ((wd 13).map u64).toArray) (.build bld_40 rfl rfl) (by rfl)) (.w (.as (v' := .agg ((wd 2).map u64).toArray) (.build bld_40 rfl rfl) (by rfl)) (.w (.as (v' := .agg ((wd 2).map u64).toArray) (.build bld_40 rfl rfl) (by rfl)) (.w (.build (cs := (facC (2, 2))) bld_117 rfl (by kernel_rfl)) (.w (.as (v' := .agg ((wd 3).map u64).toArray) (.build bld_40 rfl rfl) (by rfl)) (.w (.build (cs := (facC (3, 1))) bld_117 rfl (by kernel_rfl)) ?_)))))
    refine .ls Tryz.underlying118 info_117 (fun v106 => ?_) (hsz := zq16)
    rw [show List.flatMap (fun v : Value => v.cells.toList) [Value.agg (facC (2, 2)).toArray, Value.agg (facC (3, 1)).toArray] = bks facC [(2, 2), (3, 1)] from rfl]
    refine JO.know (φ := ∃ (A : Option Addr) (c : Nat), v106 = .slice A 2 c) (fun w hs => (by obtain ⟨A, c, h, _⟩ := row_rd (by decide) (Res.row_ok.1 (hs.hok _ (.head _))); exact ⟨A, c, h⟩)) fun hf => ?_
    obtain ⟨A106, c106, rfl⟩ := hf
    refine .w (.as (v' := .agg (prfC (⟨13, 2, A106, 2, c106, [(2, 2), (3, 1)]⟩ : PF)).toArray) (.build (cs := ((wd 13).map u64 ++ ((wd 2).map u64 ++ [.slice A106 2 c106]))) bld_120 rfl (by kernel_rfl)) (congrArg (fun v => Value.agg ((wd 13).map u64 ++ ((wd 2).map u64 ++ [v])).toArray) (PF.v_eq (⟨13, 2, A106, 2, c106, [(2, 2), (3, 1)]⟩ : PF)).symm)) (.al zero_120 fun b13 => ?_)
    refine .sa sz_120 ?_ (h1 := (FS.one (f := prfC) _))
    refine JO.frz (r := Res.cells b13 (prfC (⟨13, 2, A106, 2, c106, [(2, 2), (3, 1)]⟩ : PF)) 120) zq12 ?_
    refine .nil (.tn (.seq (.region ?_)))
    refine .w (.as (v' := .agg ((wd 53).map u64).toArray) (.build bld_40 rfl rfl) (by rfl)) (.w (.as (v' := .agg ((wd 2).map u64).toArray) (.build bld_40 rfl rfl) (by rfl)) (.w (.as (v' := .agg ((wd 2).map u64).toArray) (.build bld_40 rfl rfl) (by rfl)) (.w (.build (cs := (facC (2, 2))) bld_117 rfl (by kernel_rfl)) (.w (.as (v' := .agg ((wd 13).map u64).toArray) (.build bld_40 rfl rfl) (by rfl)) (.w (.build (cs := (facC (13, 1))) bld_117 rfl (by kernel_rfl)) ?_)))))
    refine .ls Tryz.underlying118 info_117 (fun v114 => ?_) (hsz := zq16)
    rw [show List.flatMap (fun v : Value => v.cells.toList) [Value.agg (facC (2, 2)).toArray, Value.agg (facC (13, 1)).toArray] = bks facC [(2, 2), (13, 1)] from rfl]
    refine JO.know (φ := ∃ (A : Option Addr) (c : Nat), v114 = .slice A 2 c) (fun w hs => (by obtain ⟨A, c, h, _⟩ := row_rd (by decide) (Res.row_ok.1 (hs.hok _ (.head _))); exact ⟨A, c, h⟩)) fun hf => ?_
    obtain ⟨A114, c114, rfl⟩ := hf
    refine .w (.as (v' := .agg (prfC (⟨53, 2, A114, 2, c114, [(2, 2), (13, 1)]⟩ : PF)).toArray) (.build (cs := ((wd 53).map u64 ++ ((wd 2).map u64 ++ [.slice A114 2 c114]))) bld_120 rfl (by kernel_rfl)) (congrArg (fun v => Value.agg ((wd 53).map u64 ++ ((wd 2).map u64 ++ [v])).toArray) (PF.v_eq (⟨53, 2, A114, 2, c114, [(2, 2), (13, 1)]⟩ : PF)).symm)) (.al zero_120 fun b14 => ?_)
    refine .sa sz_120 ?_ (h1 := (FS.one (f := prfC) _))
    refine JO.frz (r := Res.cells b14 (prfC (⟨53, 2, A114, 2, c114, [(2, 2), (13, 1)]⟩ : PF)) 120) zq12 ?_
    refine .nil (.tn (.seq ?_))
    refine JC.draw (.one 0 (.one 1 (.one 2 (.one 3 (.one 4 (.one 5 (.one 6 (.alt 7 (.one 8 (.one 9 .nil)) (.alt 8 (.one 7 (.one 9 .nil)) .nil))))))))) (fun i => ([7, 8] : List Nat).contains i) (fun i => ([7, 8] : List Nat).contains i) (fun i => ([0, 1, 2, 3, 4, 5, 6, 9] : List Nat).contains i) mixed (by kernel_rfl) (by decide) (by kernel_rfl) ?_
    refine .uw rfl (.as (v' := .agg ((wd 107).map u64).toArray) (.build bld_40 rfl rfl) (by rfl)) (.uw rfl (.as (v' := .agg ((wd 53).map u64).toArray) (.build bld_40 rfl rfl) (by rfl)) (.uw rfl (.as (v' := .agg ((wd 4).map u64).toArray) (.build bld_40 rfl rfl) (by rfl)) (.uw rfl (.build (cs := (parC 107 53 4)) bld_55 rfl (by kernel_rfl)) (.uw rfl (.as (v' := .agg (prfC (⟨3, 2, A21, 1, c21, [(2, 1)]⟩ : PF)).toArray) (.lda agg_120 rfl) (by rfl)) (.uw rfl (.as (v' := .agg (prfC (⟨13, 2, A106, 2, c106, [(2, 2), (3, 1)]⟩ : PF)).toArray) (.lda agg_120 rfl) (by rfl)) (.uw rfl (.as (v' := .agg (prfC (⟨53, 2, A114, 2, c114, [(2, 2), (13, 1)]⟩ : PF)).toArray) (.lda agg_120 rfl) (by rfl)) ?_))))))
    refine JR.alt rfl ?_ ?_
    ·refine .mw rfl (.ls Tryz.underlying56 info_120 (hsz := zq20)) ?_
     rintro v123 _ _ ⟨rfl, rfl⟩
     refine kp ?_
     rw [show List.flatMap (fun v : Value => v.cells.toList) [Value.agg (prfC (⟨3, 2, A21, 1, c21, [(2, 1)]⟩ : PF)).toArray, Value.agg (prfC (⟨13, 2, A106, 2, c106, [(2, 2), (3, 1)]⟩ : PF)).toArray, Value.agg (prfC (⟨53, 2, A114, 2, c114, [(2, 2), (13, 1)]⟩ : PF)).toArray] = bks prfC [(⟨3, 2, A21, 1, c21, [(2, 1)]⟩ : PF), (⟨13, 2, A106, 2, c106, [(2, 2), (3, 1)]⟩ : PF), (⟨53, 2, A114, 2, c114, [(2, 2), (13, 1)]⟩ : PF)] from rfl]
     refine .mw0 rfl (.sa sz_55 (h1 := (par_one _ _ _))) ?_
     rintro _ _ _ ⟨rfl, rfl⟩
     refine kp ?_
     refine .uw rfl (.assign rfl) ?_
     refine .nil (.tn (.ret (.block_ret (.then_ret ?_))))
     refine .sp0 ?_
     refine .rs (A := [Res.row (.slice A21 1 c21) [(2, 1)].length 117 5 (bks facC [(2, 1)]), Res.row (.slice A106 2 c106) [(2, 2), (3, 1)].length 117 5 (bks facC [(2, 2), (3, 1)]), Res.row (.slice A114 2 c114) [(2, 2), (13, 1)].length 117 5 (bks facC [(2, 2), (13, 1)])]) (B := []) (L := facRows [(⟨3, 2, A21, 1, c21, [(2, 1)]⟩ : PF), (⟨13, 2, A106, 2, c106, [(2, 2), (3, 1)]⟩ : PF), (⟨53, 2, A114, 2, c114, [(2, 2), (13, 1)]⟩ : PF)]) (by rw [List.append_nil]; simp only [facRows, List.map_cons, List.map_nil, PF.v_eq]; exact List.Perm.refl _) ?_
     exact .dn [] [Res.row v123 [(⟨3, 2, A21, 1, c21, [(2, 1)]⟩ : PF), (⟨13, 2, A106, 2, c106, [(2, 2), (3, 1)]⟩ : PF), (⟨53, 2, A114, 2, c114, [(2, 2), (13, 1)]⟩ : PF)].length 120 9 (bks prfC [(⟨3, 2, A21, 1, c21, [(2, 1)]⟩ : PF), (⟨13, 2, A106, 2, c106, [(2, 2), (3, 1)]⟩ : PF), (⟨53, 2, A114, 2, c114, [(2, 2), (13, 1)]⟩ : PF)]), Res.sep (facRows [(⟨3, 2, A21, 1, c21, [(2, 1)]⟩ : PF), (⟨13, 2, A106, 2, c106, [(2, 2), (3, 1)]⟩ : PF), (⟨53, 2, A114, 2, c114, [(2, 2), (13, 1)]⟩ : PF)])] (res2 rfl (.cl agg_55) (.tmp rfl)) ⟨v123, [(⟨3, 2, A21, 1, c21, [(2, 1)]⟩ : PF), (⟨13, 2, A106, 2, c106, [(2, 2), (3, 1)]⟩ : PF), (⟨53, 2, A114, 2, c114, [(2, 2), (13, 1)]⟩ : PF)], by rw [hg]; rfl, by rw [hg]; rfl, rfl, rfl⟩
    refine JA.alt rfl ?_ ?_
    ·refine .mw0 rfl (.sa sz_55 (h1 := (par_one _ _ _))) ?_
     rintro _ _ _ ⟨rfl, rfl⟩
     refine kp ?_
     refine .mw rfl (.ls Tryz.underlying56 info_120 (hsz := zq20)) ?_
     rintro v123 _ _ ⟨rfl, rfl⟩
     refine kp ?_
     rw [show List.flatMap (fun v : Value => v.cells.toList) [Value.agg (prfC (⟨3, 2, A21, 1, c21, [(2, 1)]⟩ : PF)).toArray, Value.agg (prfC (⟨13, 2, A106, 2, c106, [(2, 2), (3, 1)]⟩ : PF)).toArray, Value.agg (prfC (⟨53, 2, A114, 2, c114, [(2, 2), (13, 1)]⟩ : PF)).toArray] = bks prfC [(⟨3, 2, A21, 1, c21, [(2, 1)]⟩ : PF), (⟨13, 2, A106, 2, c106, [(2, 2), (3, 1)]⟩ : PF), (⟨53, 2, A114, 2, c114, [(2, 2), (13, 1)]⟩ : PF)] from rfl]
     refine .uw rfl (.assign rfl) ?_
     refine .nil (.tn (.ret (.block_ret (.then_ret ?_))))
     refine .sp0 ?_
     refine .rs (A := [Res.row (.slice A21 1 c21) [(2, 1)].length 117 5 (bks facC [(2, 1)]), Res.row (.slice A106 2 c106) [(2, 2), (3, 1)].length 117 5 (bks facC [(2, 2), (3, 1)]), Res.row (.slice A114 2 c114) [(2, 2), (13, 1)].length 117 5 (bks facC [(2, 2), (13, 1)])]) (B := []) (L := facRows [(⟨3, 2, A21, 1, c21, [(2, 1)]⟩ : PF), (⟨13, 2, A106, 2, c106, [(2, 2), (3, 1)]⟩ : PF), (⟨53, 2, A114, 2, c114, [(2, 2), (13, 1)]⟩ : PF)]) (by rw [List.append_nil]; simp only [facRows, List.map_cons, List.map_nil, PF.v_eq]; exact List.Perm.refl _) ?_
     exact .dn [] [Res.row v123 [(⟨3, 2, A21, 1, c21, [(2, 1)]⟩ : PF), (⟨13, 2, A106, 2, c106, [(2, 2), (3, 1)]⟩ : PF), (⟨53, 2, A114, 2, c114, [(2, 2), (13, 1)]⟩ : PF)].length 120 9 (bks prfC [(⟨3, 2, A21, 1, c21, [(2, 1)]⟩ : PF), (⟨13, 2, A106, 2, c106, [(2, 2), (3, 1)]⟩ : PF), (⟨53, 2, A114, 2, c114, [(2, 2), (13, 1)]⟩ : PF)]), Res.sep (facRows [(⟨3, 2, A21, 1, c21, [(2, 1)]⟩ : PF), (⟨13, 2, A106, 2, c106, [(2, 2), (3, 1)]⟩ : PF), (⟨53, 2, A114, 2, c114, [(2, 2), (13, 1)]⟩ : PF)])] (res2 rfl (.cl agg_55) (.tmp rfl)) ⟨v123, [(⟨3, 2, A21, 1, c21, [(2, 1)]⟩ : PF), (⟨13, 2, A106, 2, c106, [(2, 2), (3, 1)]⟩ : PF), (⟨53, 2, A114, 2, c114, [(2, 2), (13, 1)]⟩ : PF)], by rw [hg]; rfl, by rw [hg]; rfl, rfl, rfl⟩
    exact JA.nil
   ·have hg : gd wh = gd 0 := gd_else hc1 hc2 hc3
    refine .skip (.block_normal (.tn (.seq (.region ?_))))
    refine .w (.as (v' := .agg ((wd 11).map u64).toArray) (.build bld_40 rfl rfl) (by rfl)) (.w (.as (v' := .agg ((wd 2).map u64).toArray) (.build bld_40 rfl rfl) (by rfl)) (.w (.as (v' := .agg (facC (2, 1)).toArray) (.lda agg_117 rfl) (by rfl)) (.w (.as (v' := .agg ((wd 5).map u64).toArray) (.build bld_40 rfl rfl) (by rfl)) (.w (.build (cs := (facC (5, 1))) bld_117 rfl (by kernel_rfl)) ?_))))
    refine .ls Tryz.underlying118 info_117 (fun v129 => ?_) (hsz := zq16)
    rw [show List.flatMap (fun v : Value => v.cells.toList) [Value.agg (facC (2, 1)).toArray, Value.agg (facC (5, 1)).toArray] = bks facC [(2, 1), (5, 1)] from rfl]
    refine JO.know (φ := ∃ (A : Option Addr) (c : Nat), v129 = .slice A 2 c) (fun w hs => (by obtain ⟨A, c, h, _⟩ := row_rd (by decide) (Res.row_ok.1 (hs.hok _ (.head _))); exact ⟨A, c, h⟩)) fun hf => ?_
    obtain ⟨A129, c129, rfl⟩ := hf
    refine .w (.as (v' := .agg (prfC (⟨11, 2, A129, 2, c129, [(2, 1), (5, 1)]⟩ : PF)).toArray) (.build (cs := ((wd 11).map u64 ++ ((wd 2).map u64 ++ [.slice A129 2 c129]))) bld_120 rfl (by kernel_rfl)) (congrArg (fun v => Value.agg ((wd 11).map u64 ++ ((wd 2).map u64 ++ [v])).toArray) (PF.v_eq (⟨11, 2, A129, 2, c129, [(2, 1), (5, 1)]⟩ : PF)).symm)) (.al zero_120 fun b15 => ?_)
    refine .sa sz_120 ?_ (h1 := (FS.one (f := prfC) _))
    refine JO.frz (r := Res.cells b15 (prfC (⟨11, 2, A129, 2, c129, [(2, 1), (5, 1)]⟩ : PF)) 120) zq12 ?_
    refine .nil (.tn (.seq ?_))
    refine JC.draw (.one 0 (.one 1 (.one 2 (.one 3 (.one 4 (.one 5 (.alt 6 (.one 7 (.one 8 .nil)) (.alt 7 (.one 6 (.one 8 .nil)) .nil)))))))) (fun i => ([6, 7] : List Nat).contains i) (fun i => ([6, 7] : List Nat).contains i) (fun i => ([0, 1, 2, 3, 4, 5, 8] : List Nat).contains i) mixed (by kernel_rfl) (by decide) (by kernel_rfl) ?_
    refine .uw rfl (.as (v' := .agg ((wd 23).map u64).toArray) (.build bld_40 rfl rfl) (by rfl)) (.uw rfl (.as (v' := .agg ((wd 11).map u64).toArray) (.build bld_40 rfl rfl) (by rfl)) (.uw rfl (.as (v' := .agg ((wd 4).map u64).toArray) (.build bld_40 rfl rfl) (by rfl)) (.uw rfl (.build (cs := (parC 23 11 4)) bld_55 rfl (by kernel_rfl)) (.uw rfl (.as (v' := .agg (prfC (⟨5, 2, A27, 1, c27, [(2, 2)]⟩ : PF)).toArray) (.lda agg_120 rfl) (by rfl)) (.uw rfl (.as (v' := .agg (prfC (⟨11, 2, A129, 2, c129, [(2, 1), (5, 1)]⟩ : PF)).toArray) (.lda agg_120 rfl) (by rfl)) ?_)))))
    refine JR.alt rfl ?_ ?_
    ·refine .mw rfl (.ls Tryz.underlying56 info_120 (hsz := zq16)) ?_
     rintro v137 _ _ ⟨rfl, rfl⟩
     refine kp ?_
     rw [show List.flatMap (fun v : Value => v.cells.toList) [Value.agg (prfC (⟨5, 2, A27, 1, c27, [(2, 2)]⟩ : PF)).toArray, Value.agg (prfC (⟨11, 2, A129, 2, c129, [(2, 1), (5, 1)]⟩ : PF)).toArray] = bks prfC [(⟨5, 2, A27, 1, c27, [(2, 2)]⟩ : PF), (⟨11, 2, A129, 2, c129, [(2, 1), (5, 1)]⟩ : PF)] from rfl]
     refine .mw0 rfl (.sa sz_55 (h1 := (par_one _ _ _))) ?_
     rintro _ _ _ ⟨rfl, rfl⟩
     refine kp ?_
     refine .uw rfl (.assign rfl) ?_
     refine .nil (.tn (.ret ?_))
     refine .sp0 ?_
     refine .rs (A := [Res.row (.slice A27 1 c27) [(2, 2)].length 117 5 (bks facC [(2, 2)]), Res.row (.slice A129 2 c129) [(2, 1), (5, 1)].length 117 5 (bks facC [(2, 1), (5, 1)])]) (B := []) (L := facRows [(⟨5, 2, A27, 1, c27, [(2, 2)]⟩ : PF), (⟨11, 2, A129, 2, c129, [(2, 1), (5, 1)]⟩ : PF)]) (by rw [List.append_nil]; simp only [facRows, List.map_cons, List.map_nil, PF.v_eq]; exact List.Perm.refl _) ?_
     exact .dn [] [Res.row v137 [(⟨5, 2, A27, 1, c27, [(2, 2)]⟩ : PF), (⟨11, 2, A129, 2, c129, [(2, 1), (5, 1)]⟩ : PF)].length 120 9 (bks prfC [(⟨5, 2, A27, 1, c27, [(2, 2)]⟩ : PF), (⟨11, 2, A129, 2, c129, [(2, 1), (5, 1)]⟩ : PF)]), Res.sep (facRows [(⟨5, 2, A27, 1, c27, [(2, 2)]⟩ : PF), (⟨11, 2, A129, 2, c129, [(2, 1), (5, 1)]⟩ : PF)])] (res2 rfl (.cl agg_55) (.tmp rfl)) ⟨v137, [(⟨5, 2, A27, 1, c27, [(2, 2)]⟩ : PF), (⟨11, 2, A129, 2, c129, [(2, 1), (5, 1)]⟩ : PF)], by rw [hg]; rfl, by rw [hg]; rfl, rfl, rfl⟩
    refine JA.alt rfl ?_ ?_
    ·refine .mw0 rfl (.sa sz_55 (h1 := (par_one _ _ _))) ?_
     rintro _ _ _ ⟨rfl, rfl⟩
     refine kp ?_
     refine .mw rfl (.ls Tryz.underlying56 info_120 (hsz := zq16)) ?_
     rintro v137 _ _ ⟨rfl, rfl⟩
     refine kp ?_
     rw [show List.flatMap (fun v : Value => v.cells.toList) [Value.agg (prfC (⟨5, 2, A27, 1, c27, [(2, 2)]⟩ : PF)).toArray, Value.agg (prfC (⟨11, 2, A129, 2, c129, [(2, 1), (5, 1)]⟩ : PF)).toArray] = bks prfC [(⟨5, 2, A27, 1, c27, [(2, 2)]⟩ : PF), (⟨11, 2, A129, 2, c129, [(2, 1), (5, 1)]⟩ : PF)] from rfl]
     refine .uw rfl (.assign rfl) ?_
     refine .nil (.tn (.ret ?_))
     refine .sp0 ?_
     refine .rs (A := [Res.row (.slice A27 1 c27) [(2, 2)].length 117 5 (bks facC [(2, 2)]), Res.row (.slice A129 2 c129) [(2, 1), (5, 1)].length 117 5 (bks facC [(2, 1), (5, 1)])]) (B := []) (L := facRows [(⟨5, 2, A27, 1, c27, [(2, 2)]⟩ : PF), (⟨11, 2, A129, 2, c129, [(2, 1), (5, 1)]⟩ : PF)]) (by rw [List.append_nil]; simp only [facRows, List.map_cons, List.map_nil, PF.v_eq]; exact List.Perm.refl _) ?_
     exact .dn [] [Res.row v137 [(⟨5, 2, A27, 1, c27, [(2, 2)]⟩ : PF), (⟨11, 2, A129, 2, c129, [(2, 1), (5, 1)]⟩ : PF)].length 120 9 (bks prfC [(⟨5, 2, A27, 1, c27, [(2, 2)]⟩ : PF), (⟨11, 2, A129, 2, c129, [(2, 1), (5, 1)]⟩ : PF)]), Res.sep (facRows [(⟨5, 2, A27, 1, c27, [(2, 2)]⟩ : PF), (⟨11, 2, A129, 2, c129, [(2, 1), (5, 1)]⟩ : PF)])] (res2 rfl (.cl agg_55) (.tmp rfl)) ⟨v137, [(⟨5, 2, A27, 1, c27, [(2, 2)]⟩ : PF), (⟨11, 2, A129, 2, c129, [(2, 1), (5, 1)]⟩ : PF)], by rw [hg]; rfl, by rw [hg]; rfl, rfl, rfl⟩
    exact JA.nil

theorem f10_spec (wh : Int) :
  Spec Tryz.prog 10 #[(it wh)] [Res.var 0 ((wd 5).map u64), Res.var 1 ((wd 2).map u64), Res.var 2 ((wd 1).map u64), Res.var 3 ((wd 2).map u64)] []
   (fun r Γ' H' => ∃ γ : GP, GOk γ ∧ γ.P = (gd wh).P ∧ γ.Q = (gd wh).Q ∧ γ.G = (gd wh).G ∧ r = ptr γ.g 0 ∧ Γ' = [] ∧ H' = [cGrp γ, Res.mod γ.px γ.P, Res.mod γ.pq γ.Q]) := by
 refine Spec.of_args Tryz.func10 rfl Tryz.ntmps10 (by simp) fun w => ?_
 refine .seq (.region ?_)
 refine .w (.assign rfl) ?_
 refine .nil (.tn (.seq (.region ?_)))
 refine .w (.move rfl) (.cb (f18_spec wh) body_18 ?_ (h0 := by rintro _ _ _ ⟨_, _, _, _, h, _⟩; exact h))
 rintro _ _ ⟨lv, L, hL, rfl, _, rfl⟩
 refine .ap ?_
 refine JO.frzF zq12 ?_
 refine .w (.move rfl) (.w (.as (v' := .agg (parC (gd wh).P (gd wh).Q (gd wh).G).toArray) (.extract rfl rfl) rfl) (.w (.as (v' := lv) (.extract rfl rfl) rfl) (.al zero_55 fun b3 => ?_)))
 refine .sa sz_55 ?_ (h1 := (par_one _ _ _))
 refine .w (.assign rfl) ?_
 refine .nil (.tn (.seq (.region ?_)))
 refine .w (.lda agg_55 rfl) (.w (.move rfl) (.cb (f51_spec (gd wh) (gd_ok wh) lv L hL) body_51 ?_ (h0 := by rintro _ _ _ ⟨_, _, _, _, _, _, h, _⟩; exact h)))
 rintro _ _ ⟨γ, hγ, hP, hQ, hG, rfl, _, rfl⟩
 refine .ap ?_
 refine .w (.move rfl) (.w (.as (v' := ptr γ.g 0) (.extract rfl rfl) rfl) (.w (.extract rfl rfl) (.w (.assign rfl) (.w (.assign rfl) ?_))))
 refine .nil (.tn (.seq (.region ?_)))
 refine .w (.move rfl) (.w (.assign rfl) ?_)
 refine .nil (.tn (.ret ?_))
 exact .dn [] [cGrp γ, Res.mod γ.px γ.P, Res.mod γ.pq γ.Q] (res1 rfl (.tmp rfl)) ⟨γ, hγ, hP, hQ, hG, rfl, rfl, rfl⟩

theorem f19_spec (T Sl : Int) :
  Spec Tryz.prog 19 #[(it T), (it Sl)] [] []
   (fun r Γ' H' => r = (.agg (cfgC ⟨T, Sl, 1, 1, 1, 1, 1⟩).toArray) ∧ Γ' = [] ∧ H' = []) := by
 refine Spec.of_args Tryz.func19 rfl Tryz.ntmps19 (by simp) fun w => ?_
 refine .seq (.region ?_)
 refine .al zero_24 fun b4 => ?_
 refine .nil (.tn (.seq (.region ?_)))
 refine .w (.move rfl) (.w (.move rfl) (.w (.build (cs := (cfgC ⟨T, Sl, 1, 1, 1, 1, 1⟩)) bld_24 rfl (by kernel_rfl)) (.sa sz_24 ?_ (h1 := (cfg_one _)))))
 refine .nil (.tn (.ret ?_))
 exact .dn [] [] (res1 rfl (.cl agg_24)) ⟨rfl, rfl, rfl⟩

theorem f17_spec (u v : Value) (xs ys : List Int) (hx1 : xs.length ≤ 1000000) (hy1 : ys.length ≤ 1000000) :
  Spec Tryz.prog 17 #[u, v] [Res.rd u xs.length 1 (xs.map it), Res.rd v ys.length 1 (ys.map it)] []
   (fun r Γ' H' => r = (.bool (decide (xs = ys))) ∧ Γ' = [] ∧ H' = []) := by
 refine Spec.of_args Tryz.func17 rfl Tryz.ntmps17 (by simp) fun w => ?_
 refine .seq (.region ?_)
 refine .w (.assign rfl) ?_
 refine .nil (.tn (.seq (.seq (.region ?_))))
 refine .w (.move rfl) (.w (.len Tryz.underlying37 rfl) (.w (.move rfl) (.w (.len Tryz.underlying37 rfl) (.w (.bin rfl rfl BinR.neq_i) ?_))))
 refine .nil (.tn ?_)
 refine .cn rfl (fun hc1 => ?_) (fun hc1 => ?_)
 ·have hne : xs ≠ ys := fun h => hc1 (by rw [h])
  refine .seq (.region ?_)
  refine .w (.assign rfl) ?_
  refine .nil (.tn (.ret (.then_ret ?_)))
  exact .dn [] [] (res1 rfl (.tmp rfl)) ⟨by rw [decide_eq_false hne], rfl, rfl⟩
 ·skip
  refine .skip (.tn (.seq (.seq (.region ?_))))
  refine .w (.assign rfl) ?_
  refine .nil (.tn (.block ?_))
  refine .lp (ι := Nat) (fun x => x ≤ xs.length ∧ ∀ j, j < x → xs.getD j 0 = ys.getD j 0) (fun T x => (5, it (x : Int)) :: T) (fun T _ => T) (fun T _ => T) (fun x => xs.length - x) 0 [0, 1] ?_ (fun x hx => ?_)
  ·exact ⟨Nat.zero_le _, fun j hj => absurd hj (Nat.not_lt_zero _)⟩
  obtain ⟨k, hk⟩ : ∃ k, k = x := ⟨_, rfl⟩
  subst hk
  obtain ⟨hk, hall⟩ := hx
  refine .seq (.seq (.region ?_))
  refine .w (.move rfl) (.w (.move rfl) (.w (.len Tryz.underlying37 rfl) (.w (.bin rfl rfl BinR.lss_i) ?_)))
  refine .nil (.tn ?_)
  refine .cn rfl (fun hc2 => ?_) (fun hc2 => ?_)
  ·skip
   refine .skip (.tn (.seq (.block (.seq ?_))))
   refine JC.draw (.one 0 (.one 1 (.one 2 (.one 3 (.one 4 (.one 5 (.one 6 (.one 7 (.one 8 .nil))))))))) (fun i => ([] : List Nat).contains i) (fun i => ([] : List Nat).contains i) (fun i => ([0, 1, 2, 4, 5, 6, 8] : List Nat).contains i) mixed (by kernel_rfl) (by decide) (by kernel_rfl) ?_
   refine .uw rfl (.move rfl) (.uw rfl (.move rfl) (.uw rfl (.ix1 Tryz.underlying37 sz_3 rfl rfl) (.w rfl (.as (v' := it (xs.getD k 0)) (.ld one_3 rfl (hj := by exact gm (d := 0) (by omega))) rfl) (.uw rfl (.move rfl) (.uw rfl (.move rfl) (.uw rfl (.ix1 Tryz.underlying37 sz_3 rfl rfl) ?_))))))
   refine .w rfl (.as (v' := it (ys.getD k 0)) (.ld one_3 rfl (hj := by exact gm (d := 0) (by omega))) rfl) (.uw rfl (.bin rfl rfl BinR.neq_i) ?_)
   refine .nil (.tn ?_)
   refine .cn rfl (fun hc3 => ?_) (fun hc3 => ?_)
   ·have hne : xs ≠ ys := fun h => hc3 (by rw [h])
    refine .seq (.region ?_)
    refine .w (.assign rfl) ?_
    refine .nil (.tn (.ret (.block_ret (.then_ret (.then_ret (.block_ret (.then_ret ?_)))))))
    exact .dn [] [] (res1 rfl (.tmp rfl)) ⟨by rw [decide_eq_false hne], rfl, rfl⟩
   ·skip
    refine .skip (.block_normal (.tn (.region ?_)))
    refine .w (.move rfl) (.w (.asI ((k + 1 : Nat) : Int) (.bin rfl rfl (BinR.add_i zq3))) (.w (.assign rfl) (.nil ?_)))
    refine .hd (k + 1) ?_
    exact ⟨⟨by omega, fun j hj => by rcases Nat.lt_succ_iff_lt_or_eq.1 hj with h | rfl; exact hall j h; first | exact hc3 | exact Classical.not_not.1 hc3⟩, by omega⟩
  ·have heq : xs = ys := ints_eq (by omega) fun j hj => hall j (by omega)
   refine .exit (.then_exit (.then_exit (.block_exit (.tn (.seq (.region ?_))))))
   refine .w (.assign rfl) ?_
   refine .nil (.tn (.ret ?_))
   exact .dn [] [] (res1 rfl (.tmp rfl)) ⟨by rw [decide_eq_true heq], rfl, rfl⟩
theorem do_body (i : Nat) : Body Tryz.prog (doF i) := by
 unfold doF
 repeat' split
 ·exact body_58
 ·exact body_59
 ·exact body_60
 ·exact body_61
 ·exact body_62
theorem do_all (z : ES) (hγ : GOk z.γ) (d : DL) (hd : DOk d) (k : Nat) (hps : z.ps[k]? = some d.p) (hkS : z.S.length = z.ps.length) (hcn : z.cnt.length = z.ps.length) (hT : 0 ≤ z.cfg.T ∧ z.cfg.T ≤ 10) (t : TX) (htc : ∀ a ∈ t.com, a < 115792089237316195423570985008687907853269984665640564039457584007913129639936) (htv : t.val < 115792089237316195423570985008687907853269984665640564039457584007913129639936) (i : Nat) (hi : i < 5) (h0 : 0 ≤ t.frm ∧ t.frm < (z.ps.length : Int)) (hw : (i = 1 ∨ i = 4 → t.dealer = (k : Int)) ∧ (¬ (i = 1 ∨ i = 4) → t.frm = (k : Int))) (hs : i = 4 → 0 ≤ t.slot ∧ t.slot < (z.own.length : Int)) :
  Spec Tryz.prog (doF i) (#[ptr z.s 0] ++ #[(.agg (txC t).toArray)] ++ #[]) [Res.cells z.s (stC z) 100, Res.rd z.sv z.S.length 1 (z.S.map u64), Res.rd z.cv z.cnt.length 1 (z.cnt.map it), Res.rd z.ov z.own.length 1 (z.own.map it), Res.rd z.av z.ps.length 1 (z.ps.map fun p => ptr p 0), Res.rd t.v t.com.length 4 (bks natC t.com), Res.var 2 ((wd 1).map u64)] [Res.cells d.p (dlC d) 105, Res.row d.cv d.com.length 40 4 (bks natC d.com), mpR d.ba itK blV d.acks, mpR d.bt itK blV d.tried, mpR d.bp itK ntV d.pieces, mpR d.bo itK blV d.opened, cGrp z.γ, Res.mod z.γ.px z.γ.P, Res.mod z.γ.pq z.γ.Q] (fun r Γ' H' => ∃ cx, r = it (kindE z d t i) ∧ Γ' = [] ∧ H' = [Res.cells (kindN d t htv i (kindE z d t i) cx).p (dlC (kindN d t htv i (kindE z d t i) cx)) 105, Res.row (kindN d t htv i (kindE z d t i) cx).cv (kindN d t htv i (kindE z d t i) cx).com.length 40 4 (bks natC (kindN d t htv i (kindE z d t i) cx).com), mpR (kindN d t htv i (kindE z d t i) cx).ba itK blV (kindN d t htv i (kindE z d t i) cx).acks, mpR (kindN d t htv i (kindE z d t i) cx).bt itK blV (kindN d t htv i (kindE z d t i) cx).tried, mpR (kindN d t htv i (kindE z d t i) cx).bp itK ntV (kindN d t htv i (kindE z d t i) cx).pieces, mpR (kindN d t htv i (kindE z d t i) cx).bo itK blV (kindN d t htv i (kindE z d t i) cx).opened, cGrp z.γ, Res.mod z.γ.px z.γ.P, Res.mod z.γ.pq z.γ.Q]) := by
 have hkl := ps_lt hps
 rcases (show i = 0 ∨ i = 1 ∨ i = 2 ∨ i = 3 ∨ i = 4 by omega) with rfl | rfl | rfl | rfl | rfl
 ·have hf := hw.2 (by decide)
  have e : t.frm.toNat = k := by omega
  have := f58_spec z hγ d hd k hps (by omega) hT t hf htc htv
  rw [← e] at this
  exact this
 ·have hf := hw.1 (by decide)
  exact (f59_spec z hγ d hd k hps t t.frm.toNat (by omega) (by omega) hf).mono fun _ _ _ ⟨h1, h2, h3⟩ => ⟨d.cv, h1, h2, h3⟩
 ·have hf := hw.2 (by decide)
  exact (f60_spec z hγ d hd k hps t hf htv).mono fun _ _ _ ⟨h1, h2, h3⟩ => ⟨d.cv, h1, h2, h3⟩
 ·have hf := hw.2 (by decide)
  exact (f61_spec z hγ d hd k hps t hf htv).mono fun _ _ _ ⟨h1, h2, h3⟩ => ⟨d.cv, h1, h2, h3⟩
 ·have hf := hw.1 (by decide)
  have hs' := hs rfl
  exact (f62_spec z hγ d hd k hps t hf t.slot.toNat (by omega) (by omega) htv).mono fun _ _ _ ⟨h1, h2, h3⟩ => ⟨d.cv, h1, h2, h3⟩

theorem f12_spec (z : ES) (ds : List DL) (hz : EOk z ds) (a : Int) (ham : a ≤ 9223372036854775807) (t : TX) (htc : ∀ a ∈ t.com, a < 115792089237316195423570985008687907853269984665640564039457584007913129639936) (htv : t.val < 115792089237316195423570985008687907853269984665640564039457584007913129639936) :
  Spec Tryz.prog 12 #[(ptr z.s 0), (it a), (.agg (txC t).toArray)] [Res.cells z.s (stC z) 100, Res.rd z.sv z.S.length 1 (z.S.map u64), Res.rd z.cv z.cnt.length 1 (z.cnt.map it), Res.rd z.ov z.own.length 1 (z.own.map it), Res.rd z.av z.ps.length 1 (z.ps.map fun p => ptr p 0), Res.rd t.v t.com.length 4 (bks natC t.com), Res.var 2 ((wd 1).map u64)] [Res.sep (ds.map dR), cGrp z.γ, Res.mod z.γ.px z.γ.P, Res.mod z.γ.pq z.γ.Q]
   (fun r Γ' H' => ∃ cx, r = it (applyE z ds a t) ∧ Γ' = [] ∧ H' = [Res.sep ((applyN z ds a t htv cx).map dR), cGrp z.γ, Res.mod z.γ.px z.γ.P, Res.mod z.γ.pq z.γ.Q]) := by
 refine Spec.of_args Tryz.func12 rfl Tryz.ntmps12 (by simp) fun w => ?_
 have hzl := hz.len
 obtain ⟨ph, hph⟩ : ∃ ph, ph = phaseF z.cfg a := ⟨_, rfl⟩
 refine JC.know (φ := z.ps.length ≤ 9223372036854775807) (fun w hs => by obtain ⟨_, _, _, _, _, _, h⟩ := hs.rdForm (.tail _ (.tail _ (.tail _ (.tail _ (.head _))))); unfold maxLen at h; omega) fun hll => ?_
 refine JC.know (φ := z.own.length ≤ 9223372036854775807) (fun w hs => by obtain ⟨_, _, _, _, _, _, h⟩ := hs.rdForm (.tail _ (.tail _ (.tail _ (.head _)))); unfold maxLen at h; omega) fun hlo => ?_
 refine .seq (.region ?_)
 refine .bx fun b5 => ?_
 refine .w (.assign rfl) ?_
 refine .nil (.tn (.seq (.region ?_)))
 refine .w (.move rfl) (.w (.makeFunc rfl rfl) (.w (.move rfl) (.w (.makeFunc rfl rfl) (.w (.move rfl) (.w (.makeFunc rfl rfl) (.w (.move rfl) ?_))))))
 refine .w (.makeFunc rfl rfl) (.w (.move rfl) (.w (.makeFunc rfl rfl) ?_))
 refine .l1 Tryz.underlying107 info_106 (fun v21 => ?_) (h1 := (by intro v hv; simp only [List.mem_cons, List.not_mem_nil, or_false] at hv; rcases hv with rfl | rfl | rfl | rfl | rfl <;> rfl))
 refine JO.freeze (v := v21) zq12 (by decide) ?_
 refine .w (.assign rfl) ?_
 refine .nil (.tn (.seq (.seq (.region ?_))))
 refine .w (.fieldAddr fa_42_0 rfl) (.w (.ld one_3 rfl) (.w (.as (v' := .bool (decide (t.kind < 1))) (.bin rfl rfl BinR.lss_i) rfl) (.w (.move rfl) ?_)))
 refine .join 4 29 (.bool (decide (t.kind < 1 ∨ t.kind > 5))) ?_ ?_
 ·refine .gn (g := 24) rfl (fun hg19 hg19' => ?_) (fun hg19 hg19' => ?_)
  ·refine .gf (g := 25) rfl rfl hg19 (by decide) ?_
   refine .gf (g := 25) rfl rfl hg19 (by decide) ?_
   refine .gf (g := 25) rfl rfl hg19 (by decide) ?_
   refine .w (.pick1 rfl hg19 rfl) (.nil ?_)
   refine .head () zq2 (fun _ h => h) (Picks.perm zq1) ?_
   trivial
  ·refine .gt (g := 25) rfl rfl hg19 ?_
   refine .w (.fieldAddr fa_42_0 rfl) ?_
   refine .gt (g := 25) rfl rfl hg19 ?_
   refine .w (.ld one_3 rfl) ?_
   refine .gt (g := 25) rfl rfl hg19 ?_
   refine .w (.bin rfl rfl BinR.gtr_i) (.w (.pick0 rfl hg19 rfl) (.nil ?_))
   refine .head () zq2 (fun _ h => h) (Picks.perm zq1) ?_
   trivial
 ·refine .w (.move rfl) ?_
  refine .join 6 36 (.bool (decide (t.kind < 1 ∨ t.kind > 5 ∨ ¬ (0 ≤ t.frm ∧ t.frm < (z.ps.length : Int))))) ?_ ?_
  ·refine .gn (g := 29) rfl (fun hg24 hg24' => ?_) (fun hg24 hg24' => ?_)
   ·refine .gf (g := 30) rfl rfl hg24 (by decide) ?_
    refine .gf (g := 30) rfl rfl hg24 (by decide) ?_
    refine .gf (g := 30) rfl rfl hg24 (by decide) ?_
    refine .gf (g := 30) rfl rfl hg24 (by decide) ?_
    refine .gf (g := 30) rfl rfl hg24 (by decide) ?_
    refine .w (.pick1 rfl hg24 rfl) (.nil ?_)
    refine .head () zq2 (fun _ h => h) (Picks.perm zq1) ?_
    trivial
   ·refine .gt (g := 30) rfl rfl hg24 ?_
    refine .w (.move rfl) ?_
    refine .gt (g := 30) rfl rfl hg24 ?_
    refine .w (.fieldAddr fa_42_1 rfl) ?_
    refine .gt (g := 30) rfl rfl hg24 ?_
    refine .w (.ld one_3 rfl) ?_
    refine .gt (g := 30) rfl rfl hg24 ?_
    refine .c (f63_spec z t.frm) body_63 ?_
    refine .gt (g := 30) rfl rfl hg24 ?_
    refine .w (.as (v' := .bool (decide (¬ (0 ≤ t.frm ∧ t.frm < (z.ps.length : Int))))) (.not rfl) (congrArg Value.bool decide_not.symm)) (.w (.pick0 rfl hg24 rfl) (.nil ?_))
    refine .head () zq2 (fun _ h => h) (Picks.perm zq1) ?_
    trivial
  ·refine .nil (.tn ?_)
   refine .cn rfl (fun hc1 => ?_) (fun hc1 => ?_)
   ·have hb1 : Bad1 z t := hc1
    have he : applyE z ds a t = 1 := if_pos hb1
    have hn : ∀ cx, applyN z ds a t htv cx = ds := fun cx => by unfold applyN; rw [if_pos hb1]
    obtain ⟨cx, -⟩ : ∃ cx : Value, True := ⟨t.v, trivial⟩
    refine .seq (.region ?_)
    refine .w (.assign rfl) ?_
    refine .nil (.tn (.ret (.then_ret ?_)))
    exact .dn [] [Res.sep (ds.map dR), cGrp z.γ, Res.mod z.γ.px z.γ.P, Res.mod z.γ.pq z.γ.Q] (res1 rfl (.tmp rfl)) ⟨cx, by rw [he], rfl, by rw [hn]⟩
   ·have hb1 : ¬ Bad1 z t := hc1
    refine .skip (.tn ?_)
    refine .mt (ι := Unit) (fun x => True) (fun T x => (8, .bool (decide (t.kind = 2 ∨ t.kind = 5))) :: (9, .bool (decide (t.kind = 3 ∨ t.kind = 5))) :: T) (fun T _ => T) (fun T _ => T) [0, 1, 5, 6, 7, 10, 53, 54, 55, 56, 57, 58, 59, 60, 61, 62, 63, 64, 65, 66, 67, 68, 69, 70, 71, 72, 73, 74, 75, 76, 77, 78, 79, 80, 81, 82, 83, 84, 85, 86, 87, 88, 89, 90, 91, 92, 93, 94, 95] [] ?_ (fun x hx => ?_)
    ·refine JC.draw (.one 0 (.one 1 (.one 2 (.one 3 (.one 4 (.one 5 (.one 6 (.one 7 (.one 8 (.one 9 (.one 10 (.one 11 (.one 12 (.one 13 (.one 14 (.one 15 (.one 16 (.one 17 .nil)))))))))))))))))) (fun i => ([] : List Nat).contains i) (fun i => ([] : List Nat).contains i) (fun i => ([0, 2, 3, 4, 6, 7, 8, 10, 11, 12, 14, 15, 16, 17] : List Nat).contains i) mixed (by kernel_rfl) (by decide) (by kernel_rfl) ?_
     refine .uw rfl (.fieldAddr fa_42_0 rfl) (.w rfl (.ld one_3 rfl) (.uw rfl (.bin rfl rfl BinR.eql_i) (.uw rfl (.move rfl) ?_)))
     refine JR.gsplit (g := 39) rfl (fun hg35 => ?_) (fun hg35 => ?_)
     ·have hg35' := hg35
      try simp only [decide_eq_true_eq, decide_eq_false_iff_not, Bool.not_eq_true', Bool.not_eq_false', ne_eq, Decidable.not_not, Bool.not_eq_true, Bool.and_eq_true, Bool.or_eq_true, BitVec.reduceToNat] at hg35'
      refine JR.gf (g := 40) rfl rfl rfl rfl hg35 (by decide) ?_
      refine JR.gf (g := 40) rfl rfl rfl rfl hg35 (by decide) ?_
      refine JR.gf (g := 40) rfl rfl rfl rfl hg35 (by decide) ?_
      refine JR.u rfl rfl rfl (Yv.pick1 rfl hg35 rfl) (by decide) (.uw rfl (.fieldAddr fa_42_0 rfl) (.w rfl (.ld one_3 rfl) (.uw rfl (.bin rfl rfl BinR.eql_i) (.uw rfl (.move rfl) ?_))))
      refine JR.gsplit (g := 47) rfl (fun hg43 => ?_) (fun hg43 => ?_)
      ·have hg43' := hg43
       try simp only [decide_eq_true_eq, decide_eq_false_iff_not, Bool.not_eq_true', Bool.not_eq_false', ne_eq, Decidable.not_not, Bool.not_eq_true, Bool.and_eq_true, Bool.or_eq_true, BitVec.reduceToNat] at hg43'
       refine JR.gf (g := 48) rfl rfl rfl rfl hg43 (by decide) ?_
       refine JR.gf (g := 48) rfl rfl rfl rfl hg43 (by decide) ?_
       refine JR.gf (g := 48) rfl rfl rfl rfl hg43 (by decide) ?_
       refine JR.u rfl rfl rfl (Yv.pick1 rfl hg43 rfl) (by decide) (.uw rfl (.assign rfl) (.uw rfl (.assign rfl) (.nil ?_)))
       refine .hd () ?_ (hE := (by repeat (first | exact trivial | refine ⟨by first | rfl | (exact congrArg (fun b => some (Value.bool b)) (by exact (decide_eq_true (by omega)).symm)), ?_⟩)))
       trivial
      ·have hg43' := hg43
       try simp only [decide_eq_true_eq, decide_eq_false_iff_not, Bool.not_eq_true', Bool.not_eq_false', ne_eq, Decidable.not_not, Bool.not_eq_true, Bool.and_eq_true, Bool.or_eq_true, BitVec.reduceToNat] at hg43'
       refine JR.ugt (g := 48) rfl rfl rfl rfl rfl hg43 (.fieldAddr fa_42_0 rfl) (by decide) ?_
       refine JR.vgt (g := 48) rfl rfl rfl rfl rfl hg43 (.ld one_3 rfl) (by decide) ?_
       refine JR.ugt (g := 48) rfl rfl rfl rfl rfl hg43 (.bin rfl rfl BinR.eql_i) (by decide) ?_
       refine JR.u rfl rfl rfl (Yv.pick0 rfl hg43 rfl) (by decide) (.uw rfl (.assign rfl) (.uw rfl (.assign rfl) (.nil ?_)))
       refine .hd () ?_ (hE := (by repeat (first | exact trivial | refine ⟨by first | rfl | (exact congrArg (fun b => some (Value.bool b)) (by first | exact (decide_eq_true (by omega)).symm | exact (decide_eq_false (by omega)).symm | exact decide_eq_decide.2 (by omega))), ?_⟩)))
       trivial
     ·have hg35' := hg35
      try simp only [decide_eq_true_eq, decide_eq_false_iff_not, Bool.not_eq_true', Bool.not_eq_false', ne_eq, Decidable.not_not, Bool.not_eq_true, Bool.and_eq_true, Bool.or_eq_true, BitVec.reduceToNat] at hg35'
      refine JR.ugt (g := 40) rfl rfl rfl rfl rfl hg35 (.fieldAddr fa_42_0 rfl) (by decide) ?_
      refine JR.vgt (g := 40) rfl rfl rfl rfl rfl hg35 (.ld one_3 rfl) (by decide) ?_
      refine JR.ugt (g := 40) rfl rfl rfl rfl rfl hg35 (.bin rfl rfl BinR.eql_i) (by decide) ?_
      refine JR.u rfl rfl rfl (Yv.pick0 rfl hg35 rfl) (by decide) (.uw rfl (.fieldAddr fa_42_0 rfl) (.w rfl (.ld one_3 rfl) (.uw rfl (.bin rfl rfl BinR.eql_i) (.uw rfl (.move rfl) ?_))))
      refine JR.gsplit (g := 47) rfl (fun hg43 => ?_) (fun hg43 => ?_)
      ·have hg43' := hg43
       try simp only [decide_eq_true_eq, decide_eq_false_iff_not, Bool.not_eq_true', Bool.not_eq_false', ne_eq, Decidable.not_not, Bool.not_eq_true, Bool.and_eq_true, Bool.or_eq_true, BitVec.reduceToNat] at hg43'
       refine JR.gf (g := 48) rfl rfl rfl rfl hg43 (by decide) ?_
       refine JR.gf (g := 48) rfl rfl rfl rfl hg43 (by decide) ?_
       refine JR.gf (g := 48) rfl rfl rfl rfl hg43 (by decide) ?_
       refine JR.u rfl rfl rfl (Yv.pick1 rfl hg43 rfl) (by decide) (.uw rfl (.assign rfl) (.uw rfl (.assign rfl) (.nil ?_)))
       refine .hd () ?_ (hE := (by repeat (first | exact trivial | refine ⟨by first | rfl | (exact congrArg (fun b => some (Value.bool b)) (by first | exact (decide_eq_true (by omega)).symm | exact (decide_eq_false (by omega)).symm | exact decide_eq_decide.2 (by omega))), ?_⟩)))
       trivial
      ·have hg43' := hg43
       try simp only [decide_eq_true_eq, decide_eq_false_iff_not, Bool.not_eq_true', Bool.not_eq_false', ne_eq, Decidable.not_not, Bool.not_eq_true, Bool.and_eq_true, Bool.or_eq_true, BitVec.reduceToNat] at hg43'
       refine JR.ugt (g := 48) rfl rfl rfl rfl rfl hg43 (.fieldAddr fa_42_0 rfl) (by decide) ?_
       refine JR.vgt (g := 48) rfl rfl rfl rfl rfl hg43 (.ld one_3 rfl) (by decide) ?_
       refine JR.ugt (g := 48) rfl rfl rfl rfl rfl hg43 (.bin rfl rfl BinR.eql_i) (by decide) ?_
       refine JR.u rfl rfl rfl (Yv.pick0 rfl hg43 rfl) (by decide) (.uw rfl (.assign rfl) (.uw rfl (.assign rfl) (.nil ?_)))
       refine .hd () ?_ (hE := (by repeat (first | exact trivial | refine ⟨by first | rfl | (exact congrArg (fun b => some (Value.bool b)) (by exact decide_eq_decide.2 (by omega))), ?_⟩)))
       trivial
    ·refine .seq (.seq (.region ?_))
     refine .w (.move rfl) (.w (.move rfl) ?_)
     refine .join 6 60 (.bool (decide ((t.kind = 2 ∨ t.kind = 5) ∧ ¬ (0 ≤ t.dealer ∧ t.dealer < (z.ps.length : Int))))) ?_ ?_
     ·refine .gn (g := 8) rfl (fun hg51 hg51' => ?_) (fun hg51 hg51' => ?_)
      ·refine .gt (g := 54) rfl rfl hg51 ?_
       refine .w (.move rfl) ?_
       refine .gt (g := 54) rfl rfl hg51 ?_
       refine .w (.fieldAddr fa_42_2 rfl) ?_
       refine .gt (g := 54) rfl rfl hg51 ?_
       refine .w (.ld one_3 rfl) ?_
       refine .gt (g := 54) rfl rfl hg51 ?_
       refine .c (f63_spec z t.dealer) body_63 ?_
       refine .gt (g := 54) rfl rfl hg51 ?_
       refine .w (.as (v' := .bool (decide (¬ (0 ≤ t.dealer ∧ t.dealer < (z.ps.length : Int))))) (.not rfl) (congrArg Value.bool decide_not.symm)) (.w (.pick1 rfl hg51 rfl) (.nil ?_))
       refine .head () zq2 (fun _ h => h) (Picks.perm zq1) ?_
       trivial
      ·refine .gf (g := 54) rfl rfl hg51 (by decide) ?_
       refine .gf (g := 54) rfl rfl hg51 (by decide) ?_
       refine .gf (g := 54) rfl rfl hg51 (by decide) ?_
       refine .gf (g := 54) rfl rfl hg51 (by decide) ?_
       refine .gf (g := 54) rfl rfl hg51 (by decide) ?_
       refine .w (.pick0 rfl hg51 rfl) (.nil ?_)
       refine .head () zq2 (fun _ h => h) (Picks.perm zq1) ?_
       trivial
     ·refine .w (.move rfl) ?_
      refine .join 9 70 (.bool (decide ((t.kind = 2 ∨ t.kind = 5) ∧ ¬ (0 ≤ t.dealer ∧ t.dealer < (z.ps.length : Int)) ∨ (t.kind = 3 ∨ t.kind = 5) ∧ ¬ (0 ≤ t.slot ∧ t.slot < (z.own.length : Int))))) ?_ ?_
      ·refine .gn (g := 60) rfl (fun hg58 hg58' => ?_) (fun hg58 hg58' => ?_)
       ·refine .gf (g := 61) rfl rfl hg58 (by decide) ?_
        refine .gf (g := 61) rfl rfl hg58 (by decide) ?_
        refine .gu (g := 63) rfl rfl (by decide) ?_
        refine .gu (g := 63) rfl rfl (by decide) ?_
        refine .gu (g := 63) rfl rfl (by decide) ?_
        refine .gu (g := 63) rfl rfl (by decide) ?_
        refine .gu (g := 63) rfl rfl (by decide) ?_
        refine .gf (g := 61) rfl rfl hg58 (by decide) ?_
        refine .w (.pick1 rfl hg58 rfl) (.nil ?_)
        refine .head () zq2 (fun _ h => h) (Picks.perm zq1) ?_
        trivial
       ·refine .gt (g := 61) rfl rfl hg58 ?_
        refine .w (.move rfl) ?_
        refine .gt (g := 61) rfl rfl hg58 ?_
        refine .w (.move rfl) ?_
        refine .gn (g := 9) rfl (fun hg60 hg60' => ?_) (fun hg60 hg60' => ?_)
        ·refine .gt (g := 63) rfl rfl hg60 ?_
         refine .w (.move rfl) ?_
         refine .gt (g := 63) rfl rfl hg60 ?_
         refine .w (.fieldAddr fa_42_3 rfl) ?_
         refine .gt (g := 63) rfl rfl hg60 ?_
         refine .w (.ld one_3 rfl) ?_
         refine .gt (g := 63) rfl rfl hg60 ?_
         refine .c (f64_spec z t.slot) body_64 ?_
         refine .gt (g := 63) rfl rfl hg60 ?_
         refine .w (.as (v' := .bool (decide (¬ (0 ≤ t.slot ∧ t.slot < (z.own.length : Int))))) (.not rfl) (congrArg Value.bool decide_not.symm)) ?_
         refine .gt (g := 61) rfl rfl hg58 ?_
         refine .w (.pick1 rfl hg60 rfl) (.w (.pick0 rfl hg58 rfl) (.nil ?_))
         refine .head () zq2 (fun _ h => h) (Picks.perm zq1) ?_
         trivial
        ·refine .gf (g := 63) rfl rfl hg60 (by decide) ?_
         refine .gf (g := 63) rfl rfl hg60 (by decide) ?_
         refine .gf (g := 63) rfl rfl hg60 (by decide) ?_
         refine .gf (g := 63) rfl rfl hg60 (by decide) ?_
         refine .gf (g := 63) rfl rfl hg60 (by decide) ?_
         refine .gt (g := 61) rfl rfl hg58 ?_
         refine .w (.pick0 rfl hg60 rfl) (.w (.pick0 rfl hg58 rfl) (.nil ?_))
         refine .head () zq2 (fun _ h => h) (Picks.perm zq1) ?_
         trivial
      ·refine .nil (.tn ?_)
       refine .cn rfl (fun hc2 => ?_) (fun hc2 => ?_)
       ·have hb2 : Bad2 z t := hc2
        have he : applyE z ds a t = 1 := by rw [applyE, if_neg hb1, if_pos hb2]
        have hn : ∀ cx, applyN z ds a t htv cx = ds := fun cx => by unfold applyN; rw [if_neg hb1, if_pos hb2]
        obtain ⟨cx, -⟩ : ∃ cx : Value, True := ⟨t.v, trivial⟩
        refine .seq (.region ?_)
        refine .w (.assign rfl) ?_
        refine .nil (.tn (.ret (.then_ret ?_)))
        exact .dn [] [Res.sep (ds.map dR), cGrp z.γ, Res.mod z.γ.px z.γ.P, Res.mod z.γ.pq z.γ.Q] (res1 rfl (.tmp rfl)) ⟨cx, by rw [he], rfl, by rw [hn]⟩
       ·have hb2 : ¬ Bad2 z t := hc2
        refine .skip (.tn (.seq (.region ?_)))
        refine .w (.move rfl) (.w (.move rfl) (.c (f29_spec z hz.win a ham) body_29 ?_))
        rw [← hph]
        refine .w (.assign rfl) ?_
        refine .nil (.tn (.seq (.seq (.region ?_))))
        refine .w (.move rfl) (.w (.fieldAddr fa_42_0 rfl) (.w (.ld one_3 rfl) (.w (.min_i rfl rfl) (.w (.bin rfl rfl BinR.neq_i) (.w (.move rfl) ?_)))))
        refine .join 8 87 (.bool (decide (ph ≠ min t.kind 4 ∧ (t.kind ≠ 5 ∨ ph ≠ 5)))) ?_ ?_
        ·refine .gn (g := 78) rfl (fun hg78 hg78' => ?_) (fun hg78 hg78' => ?_)
         ·refine .gt (g := 79) rfl rfl hg78 ?_
          refine .w (.fieldAddr fa_42_0 rfl) ?_
          refine .gt (g := 79) rfl rfl hg78 ?_
          refine .w (.ld one_3 rfl) ?_
          refine .gt (g := 79) rfl rfl hg78 ?_
          refine .w (.bin rfl rfl BinR.neq_i) ?_
          refine .gt (g := 79) rfl rfl hg78 ?_
          refine .w (.move rfl) ?_
          refine .gn (g := 82) rfl (fun hg82 hg82' => ?_) (fun hg82 hg82' => ?_)
          ·refine .gf (g := 83) rfl rfl hg82 (by decide) ?_
           refine .gf (g := 83) rfl rfl hg82 (by decide) ?_
           refine .gt (g := 79) rfl rfl hg78 ?_
           refine .w (.pick1 rfl hg82 rfl) (.w (.pick1 rfl hg78 rfl) (.nil ?_))
           refine .head () zq2 (fun _ h => h) (Picks.perm zq1) ?_
           trivial
          ·refine .gt (g := 83) rfl rfl hg82 ?_
           refine .w (.move rfl) ?_
           refine .gt (g := 83) rfl rfl hg82 ?_
           refine .w (.bin rfl rfl BinR.neq_i) ?_
           refine .gt (g := 79) rfl rfl hg78 ?_
           refine .w (.pick0 rfl hg82 rfl) (.w (.pick1 rfl hg78 rfl) (.nil ?_))
           refine .head () zq2 (fun _ h => h) (Picks.perm zq1) ?_
           trivial
         ·refine .gf (g := 79) rfl rfl hg78 (by decide) ?_
          refine .gf (g := 79) rfl rfl hg78 (by decide) ?_
          refine .gf (g := 79) rfl rfl hg78 (by decide) ?_
          refine .gf (g := 79) rfl rfl hg78 (by decide) ?_
          refine .gu (g := 83) rfl rfl (by decide) ?_
          refine .gu (g := 83) rfl rfl (by decide) ?_
          refine .gf (g := 79) rfl rfl hg78 (by decide) ?_
          refine .w (.pick0 rfl hg78 rfl) (.nil ?_)
          refine .head () zq2 (fun _ h => h) (Picks.perm zq1) ?_
          trivial
        ·refine .nil (.tn ?_)
         refine .cn rfl (fun hc3 => ?_) (fun hc3 => ?_)
         ·have h3 : Bad3 z a t := by rw [hph] at hc3; exact hc3
          have he : applyE z ds a t = 70 := by rw [applyE, if_neg hb1, if_neg hb2, if_pos h3]
          have hn : ∀ cx, applyN z ds a t htv cx = ds := fun cx => by unfold applyN; rw [if_neg hb1, if_neg hb2, if_pos h3]
          obtain ⟨cx, -⟩ : ∃ cx : Value, True := ⟨t.v, trivial⟩
          refine .seq (.region ?_)
          refine .w (.assign rfl) ?_
          refine .nil (.tn (.ret (.then_ret ?_)))
          exact .dn [] [Res.sep (ds.map dR), cGrp z.γ, Res.mod z.γ.px z.γ.P, Res.mod z.γ.pq z.γ.Q] (res1 rfl (.tmp rfl)) ⟨cx, by rw [he], rfl, by rw [hn]⟩
         ·have h3 : ¬ Bad3 z a t := by rw [hph] at hc3; exact hc3
          have hwk : whoK t < ds.length := by unfold whoK; split <;> omega
          have hdk := hz.at hwk
          refine JC.us (L := ds.map dR) (A := [dR (ds.getD (whoK t) DZ)]) (B := (ds.eraseIdx (whoK t)).map dR) (ds_out hdk.1) ?_
          refine JC.us (L := dlL (ds.getD (whoK t) DZ)) (A := dlL (ds.getD (whoK t) DZ)) (B := []) (by rw [List.append_nil]) ?_
          refine .skip (.tn (.seq ?_))
          refine JC.draw (.one 0 (.one 1 (.one 2 (.one 3 (.one 4 (.one 5 (.one 6 (.one 7 (.one 8 .nil))))))))) (fun i => ([7] : List Nat).contains i) (fun i => ([7] : List Nat).contains i) (fun i => ([0, 1, 3, 4, 8] : List Nat).contains i) mixed (by kernel_rfl) (by decide) (by kernel_rfl) ?_
          refine .uw rfl (.move rfl) (.uw rfl (.fieldAddr fa_42_0 rfl) (.w rfl (.ld one_3 rfl) (.uw rfl (.asI ((t.kind - 1).toNat : Int) (.bin rfl rfl (BinR.sub_i zq3))) (.uw rfl (.ix1 Tryz.underlying107 sz_106 rfl rfl) (.w rfl (.ld one_106 rfl (hj := by exact do_at (by omega))) (.w rfl (.as (v' := .agg (txC t).toArray) (.lda agg_42 rfl) (by rfl)) ?_))))))
          refine .mw rfl (Mv.callF (do_body (t.kind - 1).toNat) rfl rfl rfl (do_all z hz.γ (ds.getD (whoK t) DZ) hdk.2.2 (whoK t) hdk.2.1 (by rw [hzl]; exact hz.S) (by rw [hzl]; exact hz.cnt) hz.T t htc htv (t.kind - 1).toNat (by omega) (by omega) ⟨fun h => by unfold whoK; rw [if_pos (by omega)]; omega, fun h => by unfold whoK; rw [if_neg (by omega)]; omega⟩ (fun h => by omega)) zq1 zq4 (by rintro _ _ _ ⟨_, _, h, _⟩; exact h)) ?_
          rintro _ _ _ ⟨_, ⟨cx, rfl, _, rfl⟩, hΓ, hH⟩
          simp only [List.cons_append, List.nil_append] at hH; subst hΓ hH
          refine kp ?_
          refine .uw rfl (.assign rfl) ?_
          refine .nil (.tn (.ret ?_))
          refine .rs (A := dlL (kindN (ds.getD (whoK t) DZ) t htv (t.kind - 1).toNat (kindE z (ds.getD (whoK t) DZ) t (t.kind - 1).toNat) cx)) (B := []) (L := dlL (kindN (ds.getD (whoK t) DZ) t htv (t.kind - 1).toNat (kindE z (ds.getD (whoK t) DZ) t (t.kind - 1).toNat) cx)) (by rw [List.append_nil]) ?_
          refine .rs (A := [dR (kindN (ds.getD (whoK t) DZ) t htv (t.kind - 1).toNat (kindE z (ds.getD (whoK t) DZ) t (t.kind - 1).toNat) cx)]) (B := (ds.eraseIdx (whoK t)).map dR) (L := (ds.set (whoK t) (kindN (ds.getD (whoK t) DZ) t htv (t.kind - 1).toNat (kindE z (ds.getD (whoK t) DZ) t (t.kind - 1).toNat) cx)).map dR) (ds_in hwk _) ?_
          exact .dn [] [Res.sep ((ds.set (whoK t) (kindN (ds.getD (whoK t) DZ) t htv (t.kind - 1).toNat (kindE z (ds.getD (whoK t) DZ) t (t.kind - 1).toNat) cx)).map dR), cGrp z.γ, Res.mod z.γ.px z.γ.P, Res.mod z.γ.pq z.γ.Q] (res1 rfl (.tmp rfl)) ⟨cx, by rw [applyE, if_neg hb1, if_neg hb2, if_neg h3], rfl, by rw [applyN, if_neg hb1, if_neg hb2, if_neg h3]⟩
theorem f9_spec  :
  Spec Tryz.prog 9 #[] [Res.var 0 ((wd 5).map u64), Res.var 1 ((wd 2).map u64), Res.var 2 ((wd 1).map u64), Res.var 3 ((wd 2).map u64)] []
   (fun r Γ' H' => r = (.bool true) ∧ Γ' = [] ∧ H' = []) := by
 refine Spec.of_args Tryz.func9 rfl Tryz.ntmps9 (by simp) fun w => ?_
 refine .seq (.region ?_)
 refine .w (.assign rfl) ?_
 refine .nil (.tn (.seq (.region ?_)))
 refine .cb (f10_spec 0) body_10 ?_ (h0 := by rintro _ _ _ ⟨_, _, _, _, _, _, h, _⟩; exact h)
 rintro _ _ ⟨γ, hγ, hP, hQ, hG, rfl, _, rfl⟩
 refine .ap ?_
 have hnE := aw_new hP hQ hG
 refine .w (.assign rfl) ?_
 refine .nil (.tn (.seq (.seq (.region ?_))))
 refine .w (.move rfl) (.w (.bin rfl rfl (BinR.eql_p Tryz.underlying28)) ?_)
 refine .nil (.tn ?_)
 refine .cf rfl ?_
 refine .skip (.tn (.seq (.region ?_)))
 refine .w (.move rfl) (.c (f19_spec 0 1) body_19 ?_)
 refine .l1 Tryz.underlying25 info_22 (fun v19 => ?_)
 refine .w (.as (v' := .agg (prevC d32z).toArray) (.build bld_35 rfl rfl) (by rfl)) (.cb (f11a_spec γ hγ ⟨0, 1, 1, 1, 1, 1, 1⟩ v19 [5] 0 d32z hnE) body_11 ?_ (h0 := by rintro _ _ _ ⟨_, _, _, _, h, _⟩; exact h))
 rintro _ _ ⟨z, ds, hN, rfl, _, rfl⟩
 refine .ap ?_
 obtain rfl := hN.eγ
 obtain ⟨d, rfl, ha⟩ := aw_start hP hQ hG hN
 have hz0 := hN.ok hγ hnE
 refine JO.frz (r := Res.cells z.s (stC z) 100) zq12 ?_
 refine JO.freeze (v := z.sv) zq12 (by decide) ?_
 refine JO.freeze (v := z.cv) zq12 (by decide) ?_
 refine JO.freeze (v := z.ov) zq12 (by decide) ?_
 refine JO.freeze (v := z.av) zq12 (by decide) ?_
 refine .w (.move rfl) (.w (.as (v' := ptr z.s 0) (.extract rfl rfl) rfl) (.w (.as (v' := it 0) (.extract rfl rfl) rfl) (.w (.assign rfl) (.w (.assign rfl) ?_))))
 refine .nil (.tn (.seq (.seq (.region ?_))))
 refine .w (.move rfl) (.w (.bin rfl rfl (BinR.eql_p Tryz.underlying30)) (.w (.move rfl) ?_))
 refine .gt (g := 26) rfl rfl rfl ?_
 refine .w (.move rfl) ?_
 refine .gt (g := 26) rfl rfl rfl ?_
 refine .w (.bin rfl rfl BinR.neq_i) (.w (.pick0 rfl rfl rfl) ?_)
 refine .nil (.tn ?_)
 refine .cf rfl ?_
 refine .skip (.tn (.seq (.region ?_)))
 refine .w (.move rfl) (.w (.as (v' := .agg ((wd 18).map u64).toArray) (.build bld_40 rfl rfl) (by rfl)) ?_)
 refine .ls Tryz.underlying38 info_40 (fun v32 => ?_) (hsz := (by intro v hv; obtain rfl := List.mem_singleton.1 hv; rfl))
 rw [show List.flatMap (fun v : Value => v.cells.toList) [Value.agg ((wd 18).map u64).toArray] = bks natC [18] from rfl]
 refine JO.know (φ := ∃ (A : Option Addr) (c : Nat), v32 = .slice A 1 c) (fun w hs => (by obtain ⟨A, c, h, _⟩ := row_rd (by decide) (Res.row_ok.1 (hs.hok _ (.head _))); exact ⟨A, c, h⟩)) fun hf => ?_
 obtain ⟨A32, c32, rfl⟩ := hf
 refine .w (.build (cs := (txC (tX1 (.slice A32 1 c32)))) bld_42 rfl (by kernel_rfl)) (.cb (f12_spec z [d] hz0 0 (by decide) (tX1 (.slice A32 1 c32)) c18 (tX1v (.slice A32 1 c32))) body_12 ?_ (h0 := by rintro _ _ _ ⟨_, _, h, _⟩; exact h))
 rintro _ _ ⟨cx1, rfl, _, rfl⟩
 refine .ap ?_
 have hz1 := hz0.apply 0 (tX1 (.slice A32 1 c32)) c18 (tX1v (.slice A32 1 c32)) cx1
 rw [(aw1 ha (.slice A32 1 c32)).1, (aw1 ha (.slice A32 1 c32)).2]
 rw [(aw1 ha (.slice A32 1 c32)).2] at hz1
 refine .w (.assign rfl) ?_
 refine .nil (.tn (.seq (.region ?_)))
 refine JO.nilRd 4 ?_
 refine .w (.move rfl) (.w (.build (cs := (txC (tX2 (.slice none 0 0)))) bld_42 rfl (by kernel_rfl)) (.cb (f12_spec z [dW1 d cx1] hz1 1 (by decide) (tX2 (.slice none 0 0)) cnil (tX2v (.slice none 0 0))) body_12 ?_ (h0 := by rintro _ _ _ ⟨_, _, h, _⟩; exact h)))
 rintro _ _ ⟨cx2, rfl, _, rfl⟩
 refine .ap ?_
 have hz2 := hz1.apply 1 (tX2 (.slice none 0 0)) cnil (tX2v (.slice none 0 0)) cx2
 rw [(aw2 ha cx1 (.slice none 0 0)).1, (aw2 ha cx1 (.slice none 0 0)).2]
 rw [(aw2 ha cx1 (.slice none 0 0)).2] at hz2
 refine .w (.assign rfl) ?_
 refine .nil (.tn (.seq (.region ?_)))
 refine .w (.move rfl) (.w (.as (v' := .agg ((wd 4).map u64).toArray) (.build bld_40 rfl rfl) (by rfl)) (.w (.build (cs := (txC (tX3 (.slice none 0 0)))) bld_42 rfl (by kernel_rfl)) (.cb (f12_spec z [dW2 d cx1] hz2 3 (by decide) (tX3 (.slice none 0 0)) cnil (tX3v (.slice none 0 0))) body_12 ?_ (h0 := by rintro _ _ _ ⟨_, _, h, _⟩; exact h))))
 rintro _ _ ⟨cx3, rfl, _, rfl⟩
 refine .ap ?_
 have hz3 := hz2.apply 3 (tX3 (.slice none 0 0)) cnil (tX3v (.slice none 0 0)) cx3
 rw [(aw3 ha cx1 (.slice none 0 0)).1, (aw3 ha cx1 (.slice none 0 0)).2]
 rw [(aw3 ha cx1 (.slice none 0 0)).2] at hz3
 refine .w (.assign rfl) ?_
 refine .nil (.tn (.seq (.region ?_)))
 refine .w (.move rfl) (.w (.as (v' := .agg ((wd 3).map u64).toArray) (.build bld_40 rfl rfl) (by rfl)) (.w (.build (cs := (txC (tX4 (.slice none 0 0)))) bld_42 rfl (by kernel_rfl)) (.cb (f12_spec z [dW2 d cx1] hz3 3 (by decide) (tX4 (.slice none 0 0)) cnil (tX4v (.slice none 0 0))) body_12 ?_ (h0 := by rintro _ _ _ ⟨_, _, h, _⟩; exact h))))
 rintro _ _ ⟨cx4, rfl, _, rfl⟩
 refine .ap ?_
 have hz4 := hz3.apply 3 (tX4 (.slice none 0 0)) cnil (tX4v (.slice none 0 0)) cx4
 rw [(aw4 ha cx1 (.slice none 0 0)).1, (aw4 ha cx1 (.slice none 0 0)).2]
 rw [(aw4 ha cx1 (.slice none 0 0)).2] at hz4
 refine .w (.assign rfl) ?_
 refine .nil (.tn (.seq (.region ?_)))
 refine .w (.move rfl) (.cb (f14_spec z [dW4 d cx1] hz4.ps (by rw [(aw_f ha cx1).2.2]; decide)) body_14 ?_ (h0 := by rintro _ _ _ ⟨_, _, h, _⟩; exact h))
 rintro v47 _ ⟨_, rfl, _, rfl⟩
 refine .ap ?_
 rw [aw_ql ha cx1]
 refine .w (.assign rfl) ?_
 refine .nil (.tn (.seq (.region ?_)))
 refine .w (.move rfl) (.c (f16R_spec z [dW4 d cx1] hz4.ps (by rw [(aw_f ha cx1).2.2]; decide) (aw_rev z d cx1) hz4.ds 0 (show 0 < 1 by decide)) body_16 ?_)
 refine .w (.move rfl) (.w (.as (v' := .agg ((wd 3).map u64).toArray) (.extract rfl rfl) (congrArg (fun n => Value.agg (List.map u64 (wd n)).toArray) (if_pos (aw_q ha cx1)))) (.w (.as (v' := .bool true) (.extract rfl rfl) (congrArg Value.bool (decide_eq_true (aw_q ha cx1)))) (.al zero_40 fun b9 => ?_)))
 refine .sa sz_40 ?_
 refine .w (.assign rfl) ?_
 refine .nil (.tn (.seq (.region ?_)))
 refine .w (.move rfl) (.c (f24R_spec z [dW4 d cx1] hz4.ps (by rw [(aw_f ha cx1).2.2]; decide) (aw_rev z d cx1) hz4.ds hz4.win 4 (by decide)) body_24 ?_)
 rw [(aw_f ha cx1).2.1]
 refine .w (.assign rfl) ?_
 refine .nil (.tn (.seq (.region ?_)))
 refine .w (.move rfl) (.cb (f13_spec z [dW4 d cx1] hz4.ps (by rw [(aw_f ha cx1).2.2]; decide)) body_13 ?_ (h0 := by rintro _ _ _ ⟨_, _, h, _⟩; exact h))
 rintro v56 _ ⟨_, rfl, _, rfl⟩
 refine .ap ?_
 rw [(aw_f ha cx1).1]
 refine .w (.assign rfl) ?_
 refine .nil (.tn (.seq (.region ?_)))
 refine .w (.move rfl) (.w (.as (v' := .bool true) (.bin rfl rfl BinR.eql_i) rfl) (.w (.move rfl) ?_))
 refine .gt (g := 59) rfl rfl rfl ?_
 refine .w (.move rfl) ?_
 refine .gt (g := 59) rfl rfl rfl ?_
 refine .w (.as (v' := .bool true) (.bin rfl rfl BinR.eql_i) rfl) (.w (.pick1 rfl rfl rfl) (.w (.move rfl) ?_))
 refine .gt (g := 63) rfl rfl rfl ?_
 refine .w (.move rfl) ?_
 refine .gt (g := 63) rfl rfl rfl ?_
 refine .w (.as (v' := .bool true) (.bin rfl rfl BinR.eql_i) rfl) (.w (.pick1 rfl rfl rfl) (.w (.move rfl) ?_))
 refine .gt (g := 67) rfl rfl rfl ?_
 refine .w (.move rfl) ?_
 refine .gt (g := 67) rfl rfl rfl ?_
 refine .w (.as (v' := .bool true) (.bin rfl rfl BinR.eql_i) rfl) (.w (.pick1 rfl rfl rfl) (.w (.move rfl) ?_))
 refine .gt (g := 71) rfl rfl rfl ?_
 refine .w (.move rfl) ?_
 refine .gt (g := 71) rfl rfl rfl ?_
 refine .l1 Tryz.underlying37 info_3 (fun v73 => ?_)
 refine .gt (g := 71) rfl rfl rfl ?_
 refine .c (f17_spec v47 v73 [0] [0] (by decide) (by decide)) body_17 ?_
 refine .w (.pick1 rfl rfl rfl) (.w (.move rfl) ?_)
 refine .gt (g := 76) rfl rfl rfl ?_
 refine .w (.move rfl) (.w (.pick1 rfl rfl rfl) (.w (.move rfl) ?_))
 refine .gt (g := 79) rfl rfl rfl ?_
 refine .w (.lda agg_40 rfl) ?_
 refine .gt (g := 79) rfl rfl rfl ?_
 refine .w (.as (v' := .agg ((wd 3).map u64).toArray) (.build bld_40 rfl rfl) (by rfl)) ?_
 refine .gt (g := 79) rfl rfl rfl ?_
 refine .w (.as (v' := .bool true) (.bin rfl rfl (eql_nat wd_len' wd_len')) (congrArg Value.bool (by simp))) (.w (.pick1 rfl rfl rfl) (.w (.move rfl) ?_))
 refine .gt (g := 84) rfl rfl rfl ?_
 refine .w (.move rfl) (.w (.pick1 rfl rfl rfl) (.w (.move rfl) ?_))
 refine .gt (g := 87) rfl rfl rfl ?_
 refine .w (.move rfl) ?_
 refine .gt (g := 87) rfl rfl rfl ?_
 refine .l1 Tryz.underlying37 info_3 (fun v89 => ?_)
 refine .gt (g := 87) rfl rfl rfl ?_
 refine .c (f17_spec v56 v89 [0] [0] (by decide) (by decide)) body_17 ?_
 refine .w (.pick1 rfl rfl rfl) (.w (.assign rfl) ?_)
 refine .nil (.tn (.ret ?_))
 exact .dn [] [] (res1 rfl (.tmp rfl)) ⟨rfl, rfl, rfl⟩
theorem dq_eq (a b : D32) : decide (a.1 = b.1) = decide (a = b) := decide_eq_decide.2 ⟨Subtype.ext, fun h => by rw [h]⟩
theorem dgv_one (d : D32) : ∀ a ∈ d.1.map u8, a.oneCell' = true := fun a ha => by obtain ⟨x, _, rfl⟩ := List.mem_map.1 ha; rfl
theorem stp_kd {L : List SX} {k : Nat} (h : k < L.length) : (bks stpC L)[k * 10 + 1 + 0]? = some (it (L.getD k SZ).kind) := by
 have h1 := bks_piece (f := stpC) (s := 10) SZ h
 have h2 : (((bks stpC L).drop (k * 10)).take 10)[1]? = some (it (L.getD k SZ).kind) := by rw [h1]; rfl
 rw [List.getElem?_take, if_pos (by decide), List.getElem?_drop] at h2
 exact h2
structure ZA (z z' : ES) : Prop where
 γ : z'.γ = z.γ
 cfg : z'.cfg = z.cfg
 S : z'.S = z.S
 cnt : z'.cnt = z.cnt
 own : z'.own = z.own
 num : z'.num = z.num
 prev : z'.prev = z.prev
 ps : z'.ps.length = z.ps.length
theorem NewZ.za {γ : GP} {c : Cfg} {S : List W64} {num : W64} {prev : D32} {z z' : ES} {ds ds' : List DL} (h : NewZ γ c S num prev z ds) (h' : NewZ γ c S num prev z' ds') : ZA z z' :=
 ⟨h'.eγ.trans h.eγ.symm, h'.ecfg.trans h.ecfg.symm, h'.eS.trans h.eS.symm, h'.ecnt.trans h.ecnt.symm, h'.eown.trans h.eown.symm, h'.enum.trans h.enum.symm, h'.eprev.trans h.eprev.symm, by
  rw [← h.eps, ← h'.eps, List.length_map, List.length_map, h.elen, h'.elen]⟩
structure Alk (d d' : DL) : Prop where
 com : d'.com = d.com
 mal : d'.mal = d.mal
 fail : d'.fail = d.fail
 acks : d'.acks = d.acks
 tried : d'.tried = d.tried
 pieces : d'.pieces = d.pieces
 opened : d'.opened = d.opened
 sec : d'.sec = d.sec
 rev : d'.rev = d.rev
theorem Alk.refl (d : DL) : Alk d d := ⟨rfl, rfl, rfl, rfl, rfl, rfl, rfl, rfl, rfl⟩
theorem Fresh.alk {d d' : DL} (h : Fresh d) (h' : Fresh d') : Alk d d' := by
 rw [h, h']
 exact ⟨rfl, rfl, rfl, rfl, rfl, rfl, rfl, rfl, rfl⟩
theorem Alk.kE {z z' : ES} (hz : ZA z z') {d d' : DL} (h : Alk d d') (t : TX) (i : Nat) : kindE z' d' t i = kindE z d t i := by
 obtain ⟨p, cv, ba, bt, bp, bo, com, mal, fail, acks, tried, pieces, opened, sec, rev⟩ := d
 obtain ⟨p', cv', ba', bt', bp', bo', com', mal', fail', acks', tried', pieces', opened', sec', rev'⟩ := d'
 obtain ⟨h1, h2, h3, h4, h5, h6, h7, h8, h9⟩ := h
 dsimp only at h1 h2 h3 h4 h5 h6 h7 h8 h9
 subst h1 h2 h3 h4 h5 h6 h7 h8 h9
 unfold kindE
 rw [hz.γ, hz.cfg, hz.S, hz.cnt, hz.own]
 rfl
theorem Alk.kN {d d' : DL} (h : Alk d d') (t : TX) (hv : t.val < 115792089237316195423570985008687907853269984665640564039457584007913129639936) (i : Nat) (e : Int) (cx cx' : Value) : Alk (kindN d t hv i e cx) (kindN d' t hv i e cx') := by
 unfold kindN
 split
 ·unfold dealN; split
  ·exact ⟨h.com, rfl, h.fail, h.acks, h.tried, h.pieces, h.opened, h.sec, h.rev⟩
  ·split
   ·exact ⟨rfl, h.mal, h.fail, h.acks, h.tried, h.pieces, h.opened, h.sec, h.rev⟩
   ·exact h
 ·split
  ·unfold ackN; split
   ·exact ⟨h.com, h.mal, h.fail, by show d'.acks.put _ _ = d.acks.put _ _; rw [h.acks], h.tried, h.pieces, h.opened, h.sec, h.rev⟩
   ·exact h
  ·split
   ·unfold openN; split
    ·exact ⟨h.com, h.mal, rfl, h.acks, by show d'.tried.put _ _ = d.tried.put _ _; rw [h.tried], h.pieces, h.opened, h.sec, h.rev⟩
    ·split
     ·exact ⟨h.com, h.mal, h.fail, h.acks, by show d'.tried.put _ _ = d.tried.put _ _; rw [h.tried], by show d'.pieces.put _ _ = d.pieces.put _ _; rw [h.pieces], by show d'.opened.put _ _ = d.opened.put _ _; rw [h.opened], h.sec, h.rev⟩
     ·exact h
   ·split
    ·unfold revN; split
     ·exact ⟨h.com, h.mal, h.fail, h.acks, h.tried, h.pieces, h.opened, rfl, rfl⟩
     ·exact h
    ·unfold postN; split
     ·exact ⟨h.com, h.mal, h.fail, h.acks, h.tried, by show d'.pieces.put _ _ = d.pieces.put _ _; rw [h.pieces], h.opened, h.sec, h.rev⟩
     ·exact h
def AlkL (ds ds' : List DL) : Prop := ds'.length = ds.length ∧ ∀ k, Alk (ds.getD k DZ) (ds'.getD k DZ)
theorem AlkL.set {ds ds' : List DL} (h : AlkL ds ds') {k : Nat} {d d' : DL} (hd : Alk d d') : AlkL (ds.set k d) (ds'.set k d') := by
 refine ⟨by rw [List.length_set, List.length_set, h.1], fun j => ?_⟩
 rw [getD_dset', getD_dset', h.1]
 split
 ·exact hd
 ·exact h.2 j
theorem AlkL.start {ds ds' : List DL} (hl : ds'.length = ds.length) (h : ∀ d ∈ ds, Fresh d) (h' : ∀ d ∈ ds', Fresh d) : AlkL ds ds' := by
 refine ⟨hl, fun k => ?_⟩
 by_cases hk : k < ds.length
 ·exact (h _ (ds_mem hk)).alk (h' _ (ds_mem (by omega)))
 ·rw [List.getD_eq_getElem?_getD, List.getD_eq_getElem?_getD, List.getElem?_eq_none (by omega), List.getElem?_eq_none (by omega)]
  exact Alk.refl _
theorem bad_za {z z' : ES} (hz : ZA z z') (a : Int) (t : TX) : (Bad1 z' t ↔ Bad1 z t) ∧ (Bad2 z' t ↔ Bad2 z t) ∧ (Bad3 z' a t ↔ Bad3 z a t) := by
 unfold Bad1 Bad2 Bad3
 rw [hz.ps, hz.own, hz.cfg]
 exact ⟨Iff.rfl, Iff.rfl, Iff.rfl⟩
theorem AlkL.apply {z z' : ES} (hz : ZA z z') {ds ds' : List DL} (h : AlkL ds ds') (a : Int) (t : TX) (hv : t.val < 115792089237316195423570985008687907853269984665640564039457584007913129639936) (cx cx' : Value) : applyE z' ds' a t = applyE z ds a t ∧ AlkL (applyN z ds a t hv cx) (applyN z' ds' a t hv cx') := by
 obtain ⟨b1, b2, b3⟩ := bad_za hz a t
 unfold applyE applyN
 by_cases h1 : Bad1 z t
 ·rw [if_pos h1, if_pos h1, if_pos (b1.2 h1), if_pos (b1.2 h1)]; exact ⟨rfl, h⟩
 have h1' : ¬ Bad1 z' t := fun x => h1 (b1.1 x)
 rw [if_neg h1, if_neg h1, if_neg h1', if_neg h1']
 by_cases h2 : Bad2 z t
 ·rw [if_pos h2, if_pos h2, if_pos (b2.2 h2), if_pos (b2.2 h2)]; exact ⟨rfl, h⟩
 have h2' : ¬ Bad2 z' t := fun x => h2 (b2.1 x)
 rw [if_neg h2, if_neg h2, if_neg h2', if_neg h2']
 by_cases h3 : Bad3 z a t
 ·rw [if_pos h3, if_pos h3, if_pos (b3.2 h3), if_pos (b3.2 h3)]; exact ⟨rfl, h⟩
 have h3' : ¬ Bad3 z' a t := fun x => h3 (b3.1 x)
 rw [if_neg h3, if_neg h3, if_neg h3', if_neg h3']
 have hk := h.2 (whoK t)
 rw [hk.kE hz]
 exact ⟨rfl, h.set (hk.kN t hv _ _ _ _)⟩
structure Kp (d d' : DL) : Prop where
 com : d'.com = d.com
 acks : d'.acks = d.acks
 opened : d'.opened = d.opened
theorem Kp.refl (d : DL) : Kp d d := ⟨rfl, rfl, rfl⟩
def KpL (ds ds' : List DL) : Prop := ds'.length = ds.length ∧ ∀ k, Kp (ds.getD k DZ) (ds'.getD k DZ)
theorem AlkL.kp {ds ds' : List DL} (h : AlkL ds ds') : KpL ds ds' := ⟨h.1, fun k => ⟨(h.2 k).com, (h.2 k).acks, (h.2 k).opened⟩⟩
theorem KpL.trans {a b c : List DL} (h : KpL a b) (g : KpL b c) : KpL a c := ⟨g.1.trans h.1, fun k => ⟨(g.2 k).com.trans (h.2 k).com, (g.2 k).acks.trans (h.2 k).acks, (g.2 k).opened.trans (h.2 k).opened⟩⟩
theorem KpL.refl (a : List DL) : KpL a a := ⟨rfl, fun _ => Kp.refl _⟩
theorem KpL.symm {a b : List DL} (h : KpL a b) : KpL b a := ⟨h.1.symm, fun k => ⟨(h.2 k).com.symm, (h.2 k).acks.symm, (h.2 k).opened.symm⟩⟩
theorem late_kp {z : ES} {ds : List DL} (hz : EOk z ds) {a : Int} {t : TX} (hv : t.val < 115792089237316195423570985008687907853269984665640564039457584007913129639936) (cx : Value) (hk : 3 < t.kind) : KpL ds (applyN z ds a t hv cx) := by
 rcases apply_cases hz a t hv cx with ⟨e, _⟩ | ⟨hb, hw, e1, e⟩
 ·rw [e]; exact KpL.refl _
 ·rw [e]
  refine ⟨List.length_set, fun j => ?_⟩
  rw [getD_dset']
  split
  ·rename_i hj
   rw [hj.1]
   unfold Bad1 at hb
   unfold kindN
   rw [if_neg (by omega), if_neg (by omega), if_neg (by omega)]
   split
   ·unfold revN; split
    ·exact ⟨rfl, rfl, rfl⟩
    ·exact Kp.refl _
   ·unfold postN; split
    ·exact ⟨rfl, rfl, rfl⟩
    ·exact Kp.refl _
  ·exact Kp.refl _
theorem Kp.qual {own : List Int} {d d' : DL} (h : Kp d d') : QualP own d' ↔ QualP own d := by
 unfold QualP DL.acked DL.opend
 rw [h.com, h.acks, h.opened]
theorem KpL.quals {own : List Int} {ds ds' : List DL} (h : KpL ds ds') : ∀ n, qualT own ds' n = qualT own ds n
 | 0 => rfl
 | n + 1 => by
  have ih := KpL.quals (own := own) h n
  by_cases hq : QualP own (ds.getD n DZ)
  ·rw [qual_y hq, qual_y ((h.2 n).qual.2 hq), ih]
  ·rw [qual_n hq, qual_n (fun x => hq ((h.2 n).qual.1 x)), ih]
theorem KpL.secs {γ : GP} {own : List Int} {ds ds' : List DL} (h : KpL ds ds') : secL γ own ds' = secL γ own ds := by
 unfold secL
 rw [h.1, h.quals]
 refine List.map_congr_left fun x _ => ?_
 unfold secN
 rw [(h.2 _).com]
theorem KpL.seed {z z' : ES} (hz : ZA z z') {ds ds' : List DL} (h : KpL ds ds') (ha : AllB z.own ds) (ha' : AllB z'.own ds') : seedR z' ds' = seedR z ds := by
 unfold seedR
 rw [if_pos ha, if_pos ha', hz.num, hz.prev, hz.γ, hz.own, h.secs, h.1, h.quals]
theorem eql_dig {x y : Operand} {a b : D32} : BinR Tryz.prog .eql 35 x y (dgV a) (dgV b) (.bool (decide (a = b))) := by
 have := BinR.eql_arr (P := Tryz.prog) (x := x) (y := y) (f := u8) (g := fun x => (x.toNat : Int)) (k := .u8) Tryz.underlying35 Tryz.underlying5 sz_5 (by kernel_rfl) (fun _ => rfl) (fun _ _ h => u8_inj h) a.1 b.1 a.2 b.2
 rw [dq_eq] at this
 exact this
theorem zq19 {p : Prop} (h : p := by first | (refine ⟨by first | rfl | rfl, ?_⟩; repeat (first | exact trivial | refine ⟨rfl, ?_⟩))) : p := h
theorem f4b_spec (sv uv ua ub : Value) (wh : Int) (c : Cfg) (S : List W64) (prev : D32) (L : List SX) (hL : ∀ s ∈ L, SXok s) (La : List SX) (hLa : ∀ s ∈ La, SXok s) (Lb : List SX) (hLb : ∀ s ∈ Lb, SXok s) (hE : newE (gG wh) c S ≠ 0) :
  Spec Tryz.prog 4 #[(it wh), (.agg (cfgC c).toArray), sv, (dgV prev), uv, ua, ub] [Res.var 0 ((wd 5).map u64), Res.var 1 ((wd 2).map u64), Res.var 2 ((wd 1).map u64), Res.var 3 ((wd 2).map u64), Res.var 5 (sqr.map u32), Res.var 4 (cub.map u32), Res.rd sv S.length 1 (S.map u64), Res.rd uv L.length 10 (bks stpC L), Res.all (stpRes L), Res.rd ua La.length 10 (bks stpC La), Res.all (stpRes La), Res.rd ub Lb.length 10 (bks stpC Lb), Res.all (stpRes Lb)] []
   (fun r Γ' H' => r = (.bool true) ∧ Γ' = [] ∧ H' = []) := by
 refine Spec.of_args Tryz.func4 rfl Tryz.ntmps4 (by simp) fun w => ?_
 refine JC.know (φ := S.length ≤ 9223372036854775807) (fun w hs => by obtain ⟨_, _, _, _, _, _, h⟩ := hs.rdForm (.tail _ (.tail _ (.tail _ (.tail _ (.tail _ (.tail _ (.head _))))))); unfold maxLen at h; omega) fun hSl => ?_
 refine JC.know (φ := L.length ≤ 9223372036854775807) (fun w hs => by obtain ⟨_, _, _, _, _, _, h⟩ := hs.rdForm (.tail _ (.tail _ (.tail _ (.tail _ (.tail _ (.tail _ (.tail _ (.head _)))))))); unfold maxLen at h; omega) fun hLl => ?_
 refine JC.know (φ := La.length ≤ 9223372036854775807) (fun w hs => by obtain ⟨_, _, _, _, _, _, h⟩ := hs.rdForm (.tail _ (.tail _ (.tail _ (.tail _ (.tail _ (.tail _ (.tail _ (.tail _ (.tail _ (.head _)))))))))); unfold maxLen at h; omega) fun hLal => ?_
 refine JC.know (φ := Lb.length ≤ 9223372036854775807) (fun w hs => by obtain ⟨_, _, _, _, _, _, h⟩ := hs.rdForm (.tail _ (.tail _ (.tail _ (.tail _ (.tail _ (.tail _ (.tail _ (.tail _ (.tail _ (.tail _ (.tail _ (.head _)))))))))))); unfold maxLen at h; omega) fun hLbl => ?_
 refine .seq (.region ?_)
 refine .bx fun b8 => ?_
 refine .bx fun b10 => ?_
 refine .w (.assign rfl) ?_
 refine .nil (.tn (.seq (.region ?_)))
 refine .c (f9_spec) body_9 ?_
 refine .w (.assign rfl) ?_
 refine .nil (.tn (.seq (.region ?_)))
 refine .w (.move rfl) (.cb (f10_spec wh) body_10 ?_ (h0 := by rintro _ _ _ ⟨_, _, _, _, _, _, h, _⟩; exact h))
 rintro _ _ ⟨γ, hγ, hP, hQ, hG, rfl, _, rfl⟩
 refine .ap ?_
 have hSG : SmG γ := smG hγ hP hQ hG
 rw [← newE_q hQ] at hE
 refine .w (.assign rfl) ?_
 refine .nil (.tn (.seq (.seq (.region ?_))))
 refine .w (.move rfl) (.w (.bin rfl rfl (BinR.eql_p Tryz.underlying28)) ?_)
 refine .nil (.tn ?_)
 refine .cf rfl ?_
 refine .skip (.tn (.seq (.seq (.region ?_))))
 refine .w (.move rfl) (.w (.len Tryz.underlying25 rfl) (.w (.bin rfl rfl BinR.gtr_i) ?_))
 refine .join 15 58 (.bool (decide (S.length > 6 ∨ L.length > 30 ∨ La.length > 20 ∨ Lb.length > 20))) ?_ ?_
 ·refine .w (.move rfl) ?_
  refine .gn (g := 43) rfl (fun hg16 hg16' => ?_) (fun hg16 hg16' => ?_)
  ·refine .gf (g := 44) rfl rfl hg16 (by decide) ?_
   refine .gf (g := 44) rfl rfl hg16 (by decide) ?_
   refine .gf (g := 44) rfl rfl hg16 (by decide) ?_
   refine .w (.pick1 rfl hg16 rfl) (.w (.move rfl) ?_)
   refine .gf (g := 49) rfl rfl rfl (by decide) ?_
   refine .gf (g := 49) rfl rfl rfl (by decide) ?_
   refine .gf (g := 49) rfl rfl rfl (by decide) ?_
   refine .w (.pick1 rfl rfl rfl) (.w (.move rfl) ?_)
   refine .gf (g := 54) rfl rfl rfl (by decide) ?_
   refine .gf (g := 54) rfl rfl rfl (by decide) ?_
   refine .gf (g := 54) rfl rfl rfl (by decide) ?_
   refine .w (.pick1 rfl rfl rfl) (.nil ?_)
   refine .head () zq2 (fun _ h => h) (Picks.perm zq1) ?_
   trivial
  ·refine .gt (g := 44) rfl rfl hg16 ?_
   refine .w (.move rfl) ?_
   refine .gt (g := 44) rfl rfl hg16 ?_
   refine .w (.len Tryz.underlying26 rfl) ?_
   refine .gt (g := 44) rfl rfl hg16 ?_
   refine .w (.bin rfl rfl BinR.gtr_i) (.w (.pick0 rfl hg16 rfl) (.w (.move rfl) ?_))
   refine .gn (g := 48) rfl (fun hg21 hg21' => ?_) (fun hg21 hg21' => ?_)
   ·refine .gf (g := 49) rfl rfl hg21 (by decide) ?_
    refine .gf (g := 49) rfl rfl hg21 (by decide) ?_
    refine .gf (g := 49) rfl rfl hg21 (by decide) ?_
    refine .w (.pick1 rfl hg21 rfl) (.w (.move rfl) ?_)
    refine .gf (g := 54) rfl rfl rfl (by decide) ?_
    refine .gf (g := 54) rfl rfl rfl (by decide) ?_
    refine .gf (g := 54) rfl rfl rfl (by decide) ?_
    refine .w (.pick1 rfl rfl rfl) (.nil ?_)
    refine .head () zq2 (fun _ h => h) (Picks.perm zq1) ?_
    trivial
   ·refine .gt (g := 49) rfl rfl hg21 ?_
    refine .w (.move rfl) ?_
    refine .gt (g := 49) rfl rfl hg21 ?_
    refine .w (.len Tryz.underlying26 rfl) ?_
    refine .gt (g := 49) rfl rfl hg21 ?_
    refine .w (.bin rfl rfl BinR.gtr_i) (.w (.pick0 rfl hg21 rfl) (.w (.move rfl) ?_))
    refine .gn (g := 53) rfl (fun hg26 hg26' => ?_) (fun hg26 hg26' => ?_)
    ·refine .gf (g := 54) rfl rfl hg26 (by decide) ?_
     refine .gf (g := 54) rfl rfl hg26 (by decide) ?_
     refine .gf (g := 54) rfl rfl hg26 (by decide) ?_
     refine .w (.pick1 rfl hg26 rfl) (.nil ?_)
     refine .head () zq2 (fun _ h => h) (Picks.perm zq1) ?_
     trivial
    ·refine .gt (g := 54) rfl rfl hg26 ?_
     refine .w (.move rfl) ?_
     refine .gt (g := 54) rfl rfl hg26 ?_
     refine .w (.len Tryz.underlying26 rfl) ?_
     refine .gt (g := 54) rfl rfl hg26 ?_
     refine .w (.bin rfl rfl BinR.gtr_i) (.w (.pick0 rfl hg26 rfl) (.nil ?_))
     refine .head () zq2 (fun _ h => h) (Picks.perm zq1) ?_
     trivial
 ·refine .nil (.tn ?_)
  refine .cn rfl (fun hc2 => ?_) (fun hc2 => ?_)
  ·skip
   refine .seq (.region ?_)
   refine .w (.move rfl) (.w (.assign rfl) ?_)
   refine .nil (.tn (.ret (.then_ret ?_)))
   exact .dn [] [] (res1 rfl (.tmp rfl)) ⟨rfl, rfl, rfl⟩
  ·skip
   refine .skip (.tn (.seq (.region ?_)))
   refine .w (.move rfl) (.w (.as (v' := .agg (cfgC c).toArray) (.lda agg_24 rfl) (by rfl)) (.w (.move rfl) (.w (.as (v' := .agg (prevC prev).toArray) (.lda agg_35 rfl) (by exact congrArg (fun l : List Value => Value.agg l.toArray) (prevC_eq prev).symm)) (.c (f11b_spec γ hγ c sv S 1 prev hE) body_11 ?_))))
   refine .w (.move rfl) (.w (.as (v' := .pointer none) (.extract rfl rfl) rfl) (.w (.as (v' := it (newE γ c S)) (.extract rfl rfl) rfl) (.w (.assign rfl) (.w (.assign rfl) ?_))))
   refine .nil (.tn (.seq (.region ?_)))
   refine .w (.move rfl) (.w (.as (v' := .agg (cfgC c).toArray) (.lda agg_24 rfl) (by rfl)) (.w (.move rfl) (.w (.as (v' := .agg (prevC prev).toArray) (.lda agg_35 rfl) (by exact congrArg (fun l : List Value => Value.agg l.toArray) (prevC_eq prev).symm)) (.c (f11b_spec γ hγ c sv S 1 prev hE) body_11 ?_))))
   refine .w (.move rfl) (.w (.as (v' := .pointer none) (.extract rfl rfl) rfl) (.w (.as (v' := it (newE γ c S)) (.extract rfl rfl) rfl) (.w (.assign rfl) (.w (.assign rfl) ?_))))
   refine .nil (.tn (.seq (.seq (.region ?_))))
   refine .w (.move rfl) (.w (.bin rfl rfl (BinR.eql_p Tryz.underlying30)) (.w (.move rfl) ?_))
   refine .gf (g := 78) rfl rfl rfl (by decide) ?_
   refine .gf (g := 78) rfl rfl rfl (by decide) ?_
   refine .w (.pick1 rfl rfl rfl) ?_
   refine .nil (.tn ?_)
   refine .ct rfl ?_
   refine .seq (.region ?_)
   refine .w (.move rfl) (.w (.move rfl) ?_)
   refine .gt (g := 83) rfl rfl rfl ?_
   refine .w (.move rfl) ?_
   refine .gt (g := 83) rfl rfl rfl ?_
   refine .w (.move rfl) ?_
   refine .gt (g := 83) rfl rfl rfl ?_
   refine .w (.as (v' := .bool true) (.bin rfl rfl BinR.eql_i) (congrArg Value.bool (decide_eq_true rfl))) (.w (.pick1 rfl rfl rfl) (.w (.move rfl) ?_))
   refine .gt (g := 88) rfl rfl rfl ?_
   refine .w (.move rfl) ?_
   refine .gt (g := 88) rfl rfl rfl ?_
   refine .w (.as (v' := .bool true) (.bin rfl rfl BinR.neq_i) (congrArg Value.bool (decide_eq_true hE))) (.w (.pick1 rfl rfl rfl) (.w (.assign rfl) ?_))
   refine .nil (.tn (.ret (.then_ret ?_)))
   exact .dn [] [] (res1 rfl (.tmp rfl)) ⟨rfl, rfl, rfl⟩

set_option maxHeartbeats 4000000 in
theorem f4a_spec (sv uv ua ub : Value) (wh : Int) (c : Cfg) (S : List W64) (prev : D32) (L : List SX) (hL : ∀ s ∈ L, SXok s) (La : List SX) (hLa : ∀ s ∈ La, SXok s) (Lb : List SX) (hLb : ∀ s ∈ Lb, SXok s) (hE : newE (gG wh) c S = 0) :
  Spec Tryz.prog 4 #[(it wh), (.agg (cfgC c).toArray), sv, (dgV prev), uv, ua, ub] [Res.var 0 ((wd 5).map u64), Res.var 1 ((wd 2).map u64), Res.var 2 ((wd 1).map u64), Res.var 3 ((wd 2).map u64), Res.var 5 (sqr.map u32), Res.var 4 (cub.map u32), Res.rd sv S.length 1 (S.map u64), Res.rd uv L.length 10 (bks stpC L), Res.all (stpRes L), Res.rd ua La.length 10 (bks stpC La), Res.all (stpRes La), Res.rd ub Lb.length 10 (bks stpC Lb), Res.all (stpRes Lb)] []
   (fun r Γ' H' => r = (.bool true) ∧ Γ' = [] ∧ H' = []) := by
 refine Spec.of_args Tryz.func4 rfl Tryz.ntmps4 (by simp) fun w => ?_
 refine JC.know (φ := S.length ≤ 9223372036854775807) (fun w hs => by obtain ⟨_, _, _, _, _, _, h⟩ := hs.rdForm (.tail _ (.tail _ (.tail _ (.tail _ (.tail _ (.tail _ (.head _))))))); unfold maxLen at h; omega) fun hSl => ?_
 refine JC.know (φ := L.length ≤ 9223372036854775807) (fun w hs => by obtain ⟨_, _, _, _, _, _, h⟩ := hs.rdForm (.tail _ (.tail _ (.tail _ (.tail _ (.tail _ (.tail _ (.tail _ (.head _)))))))); unfold maxLen at h; omega) fun hLl => ?_
 refine JC.know (φ := La.length ≤ 9223372036854775807) (fun w hs => by obtain ⟨_, _, _, _, _, _, h⟩ := hs.rdForm (.tail _ (.tail _ (.tail _ (.tail _ (.tail _ (.tail _ (.tail _ (.tail _ (.tail _ (.head _)))))))))); unfold maxLen at h; omega) fun hLal => ?_
 refine JC.know (φ := Lb.length ≤ 9223372036854775807) (fun w hs => by obtain ⟨_, _, _, _, _, _, h⟩ := hs.rdForm (.tail _ (.tail _ (.tail _ (.tail _ (.tail _ (.tail _ (.tail _ (.tail _ (.tail _ (.tail _ (.tail _ (.head _)))))))))))); unfold maxLen at h; omega) fun hLbl => ?_
 refine .seq (.region ?_)
 refine .bx fun b8 => ?_
 refine .bx fun b10 => ?_
 refine .w (.assign rfl) ?_
 refine .nil (.tn (.seq (.region ?_)))
 refine .c (f9_spec) body_9 ?_
 refine .w (.assign rfl) ?_
 refine .nil (.tn (.seq (.region ?_)))
 refine .w (.move rfl) (.cb (f10_spec wh) body_10 ?_ (h0 := by rintro _ _ _ ⟨_, _, _, _, _, _, h, _⟩; exact h))
 rintro _ _ ⟨γ, hγ, hP, hQ, hG, rfl, _, rfl⟩
 refine .ap ?_
 have hSG : SmG γ := smG hγ hP hQ hG
 rw [← newE_q hQ] at hE
 refine .w (.assign rfl) ?_
 refine .nil (.tn (.seq (.seq (.region ?_))))
 refine .w (.move rfl) (.w (.bin rfl rfl (BinR.eql_p Tryz.underlying28)) ?_)
 refine .nil (.tn ?_)
 refine .cf rfl ?_
 refine .skip (.tn (.seq (.seq (.region ?_))))
 refine .w (.move rfl) (.w (.len Tryz.underlying25 rfl) (.w (.bin rfl rfl BinR.gtr_i) ?_))
 refine .join 15 58 (.bool (decide (S.length > 6 ∨ L.length > 30 ∨ La.length > 20 ∨ Lb.length > 20))) ?_ ?_
 ·refine .w (.move rfl) ?_
  refine .gn (g := 43) rfl (fun hg16 hg16' => ?_) (fun hg16 hg16' => ?_)
  ·refine .gf (g := 44) rfl rfl hg16 (by decide) ?_
   refine .gf (g := 44) rfl rfl hg16 (by decide) ?_
   refine .gf (g := 44) rfl rfl hg16 (by decide) ?_
   refine .w (.pick1 rfl hg16 rfl) (.w (.move rfl) ?_)
   refine .gf (g := 49) rfl rfl rfl (by decide) ?_
   refine .gf (g := 49) rfl rfl rfl (by decide) ?_
   refine .gf (g := 49) rfl rfl rfl (by decide) ?_
   refine .w (.pick1 rfl rfl rfl) (.w (.move rfl) ?_)
   refine .gf (g := 54) rfl rfl rfl (by decide) ?_
   refine .gf (g := 54) rfl rfl rfl (by decide) ?_
   refine .gf (g := 54) rfl rfl rfl (by decide) ?_
   refine .w (.pick1 rfl rfl rfl) (.nil ?_)
   refine .head () zq2 (fun _ h => h) (Picks.perm zq1) ?_
   trivial
  ·refine .gt (g := 44) rfl rfl hg16 ?_
   refine .w (.move rfl) ?_
   refine .gt (g := 44) rfl rfl hg16 ?_
   refine .w (.len Tryz.underlying26 rfl) ?_
   refine .gt (g := 44) rfl rfl hg16 ?_
   refine .w (.bin rfl rfl BinR.gtr_i) (.w (.pick0 rfl hg16 rfl) (.w (.move rfl) ?_))
   refine .gn (g := 48) rfl (fun hg21 hg21' => ?_) (fun hg21 hg21' => ?_)
   ·refine .gf (g := 49) rfl rfl hg21 (by decide) ?_
    refine .gf (g := 49) rfl rfl hg21 (by decide) ?_
    refine .gf (g := 49) rfl rfl hg21 (by decide) ?_
    refine .w (.pick1 rfl hg21 rfl) (.w (.move rfl) ?_)
    refine .gf (g := 54) rfl rfl rfl (by decide) ?_
    refine .gf (g := 54) rfl rfl rfl (by decide) ?_
    refine .gf (g := 54) rfl rfl rfl (by decide) ?_
    refine .w (.pick1 rfl rfl rfl) (.nil ?_)
    refine .head () zq2 (fun _ h => h) (Picks.perm zq1) ?_
    trivial
   ·refine .gt (g := 49) rfl rfl hg21 ?_
    refine .w (.move rfl) ?_
    refine .gt (g := 49) rfl rfl hg21 ?_
    refine .w (.len Tryz.underlying26 rfl) ?_
    refine .gt (g := 49) rfl rfl hg21 ?_
    refine .w (.bin rfl rfl BinR.gtr_i) (.w (.pick0 rfl hg21 rfl) (.w (.move rfl) ?_))
    refine .gn (g := 53) rfl (fun hg26 hg26' => ?_) (fun hg26 hg26' => ?_)
    ·refine .gf (g := 54) rfl rfl hg26 (by decide) ?_
     refine .gf (g := 54) rfl rfl hg26 (by decide) ?_
     refine .gf (g := 54) rfl rfl hg26 (by decide) ?_
     refine .w (.pick1 rfl hg26 rfl) (.nil ?_)
     refine .head () zq2 (fun _ h => h) (Picks.perm zq1) ?_
     trivial
    ·refine .gt (g := 54) rfl rfl hg26 ?_
     refine .w (.move rfl) ?_
     refine .gt (g := 54) rfl rfl hg26 ?_
     refine .w (.len Tryz.underlying26 rfl) ?_
     refine .gt (g := 54) rfl rfl hg26 ?_
     refine .w (.bin rfl rfl BinR.gtr_i) (.w (.pick0 rfl hg26 rfl) (.nil ?_))
     refine .head () zq2 (fun _ h => h) (Picks.perm zq1) ?_
     trivial
 ·refine .nil (.tn ?_)
  refine .cn rfl (fun hc2 => ?_) (fun hc2 => ?_)
  ·skip
   refine .seq (.region ?_)
   refine .w (.move rfl) (.w (.assign rfl) ?_)
   refine .nil (.tn (.ret (.then_ret ?_)))
   exact .dn [] [] (res1 rfl (.tmp rfl)) ⟨rfl, rfl, rfl⟩
  ·have hS6 : S.length ≤ 6 := by omega
   have hL30 : L.length ≤ 30 := by omega
   have hLa20 : La.length ≤ 20 := by omega
   have hLb20 : Lb.length ≤ 20 := by omega
   clear hSl hLl hLal hLbl
   refine .skip (.tn (.seq (.region ?_)))
   refine .w (.move rfl) (.w (.as (v' := .agg (cfgC c).toArray) (.lda agg_24 rfl) (by rfl)) (.w (.move rfl) (.w (.as (v' := .agg (prevC prev).toArray) (.lda agg_35 rfl) (by exact congrArg (fun l : List Value => Value.agg l.toArray) (prevC_eq prev).symm)) (.cb (f11a_spec γ hγ c sv S 1 prev hE) body_11 ?_ (h0 := by rintro _ _ _ ⟨_, _, _, _, h, _⟩; exact h)))))
   rintro _ _ ⟨z, ds, hN, rfl, _, rfl⟩
   refine .ap ?_
   obtain rfl := hN.eγ
   have hz := hN.ok hγ hE
   obtain ⟨-, -, -, hS40, -, -⟩ := new_0 hE
   have hpl : z.ps.length = S.length := hz.len.trans hN.elen
   have hdl := hN.elen
   refine JO.frz (r := Res.cells z.s (stC z) 100) zq12 ?_
   refine JO.freeze (v := z.sv) zq12 (by decide) ?_
   refine JO.freeze (v := z.cv) zq12 (by decide) ?_
   refine JO.freeze (v := z.ov) zq12 (by decide) ?_
   refine JO.freeze (v := z.av) zq12 (by decide) ?_
   refine .w (.move rfl) (.w (.as (v' := ptr z.s 0) (.extract rfl rfl) rfl) (.w (.as (v' := it 0) (.extract rfl rfl) rfl) (.w (.assign rfl) (.w (.assign rfl) ?_))))
   refine .nil (.tn (.seq (.region ?_)))
   refine .w (.move rfl) (.w (.as (v' := .agg (cfgC c).toArray) (.lda agg_24 rfl) (by rfl)) (.w (.move rfl) (.w (.as (v' := .agg (prevC prev).toArray) (.lda agg_35 rfl) (by exact congrArg (fun l : List Value => Value.agg l.toArray) (prevC_eq prev).symm)) (.cb (f11a_spec z.γ hγ c sv S 1 prev hE) body_11 ?_ (h0 := by rintro _ _ _ ⟨_, _, _, _, h, _⟩; exact h)))))
   rintro _ _ ⟨z', es, hN', rfl, _, rfl⟩
   refine .ap ?_
   have hgz := hN'.eγ
   have hz' := hN'.ok hγ hE
   have hpl' : z'.ps.length = S.length := hz'.len.trans hN'.elen
   have hdl' := hN'.elen
   have hSG' : SmG z'.γ := by rw [hgz]; exact hSG
   have hza : ZA z z' := hN.za hN'
   refine JO.frz (r := Res.cells z'.s (stC z') 100) zq12 ?_
   refine JO.freeze (v := z'.sv) zq12 (by decide) ?_
   refine JO.freeze (v := z'.cv) zq12 (by decide) ?_
   refine JO.freeze (v := z'.ov) zq12 (by decide) ?_
   refine JO.freeze (v := z'.av) zq12 (by decide) ?_
   refine .w (.move rfl) (.w (.as (v' := ptr z'.s 0) (.extract rfl rfl) rfl) (.w (.as (v' := it 0) (.extract rfl rfl) rfl) (.w (.assign rfl) (.w (.assign rfl) ?_))))
   refine .nil (.tn (.seq (.seq (.region ?_))))
   refine .w (.move rfl) (.w (.as (v' := .bool false) (.bin rfl rfl (BinR.eql_p Tryz.underlying30)) rfl) (.w (.move rfl) ?_))
   refine .gt (g := 78) rfl rfl rfl ?_
   refine .w (.move rfl) ?_
   refine .gt (g := 78) rfl rfl rfl ?_
   refine .w (.as (v' := .bool false) (.bin rfl rfl (BinR.eql_p Tryz.underlying30)) rfl) (.w (.pick0 rfl rfl rfl) ?_)
   refine .nil (.tn ?_)
   refine .cf rfl ?_
   refine .skip (.tn (.seq (.seq (.region ?_))))
   refine .w (.assign rfl) ?_
   refine .nil (.tn (.block ?_))
   refine .lp (ι := Nat × List DL × List DL) (fun x => x.1 ≤ L.length ∧ EOk z x.2.1 ∧ EOk z' x.2.2 ∧ x.2.1.length = S.length ∧ x.2.2.length = S.length ∧ AlkL x.2.1 x.2.2 ∧ AllR z.γ x.2.1 ∧ AllR z'.γ x.2.2) (fun T x => (21, it (x.1 : Int)) :: T) (fun T _ => T) (fun T x => Res.sep (x.2.1.map dR) :: Res.sep (x.2.2.map dR) :: T) (fun x => L.length - x.1) (0, ds, es) [4, 5, 6, 15, 17, 19, 24, 25, 26, 27, 28, 29, 30, 31, 32, 33, 34, 35, 132, 133, 134, 135, 136, 137, 138, 139, 140, 141, 142, 143, 144, 145, 146, 147, 148, 149, 150, 151, 152, 153, 154, 155, 157, 158, 159, 160, 161, 162, 163, 164, 165, 166, 167, 168, 169, 170, 171, 172, 173, 174, 175, 176, 177, 178, 179, 180, 182, 183, 184, 185, 186, 187, 188, 189, 190, 191, 192, 193, 194, 195, 196, 197, 198, 199, 200, 201, 202, 203, 204, 205, 206, 207, 208, 209, 210, 211, 212, 213, 214, 215, 216, 217, 218, 219, 220, 221, 222, 223, 224, 225, 226, 227, 228, 229, 230, 231, 232, 233, 234, 235, 236, 237, 238, 239, 240, 241, 242, 243, 244, 245, 246] ?_ (fun x hx => ?_)
   ·exact ⟨Nat.zero_le _, hz, hz', hdl, hdl', AlkL.start (hdl'.trans hdl.symm) hN.efresh hN'.efresh, fun d hd => (hN.efresh d hd).dr, fun d hd => (hN'.efresh d hd).dr⟩
   obtain ⟨k, ds, es⟩ := x
   obtain ⟨hk, hzd, hze, hdl1, hel1, hal, hAd, hAe⟩ := hx
   dsimp only at hk hzd hze hdl1 hel1 hal hAd hAe ⊢
   refine .seq (.seq (.region ?_))
   refine .w (.move rfl) (.w (.move rfl) (.w (.len Tryz.underlying26 rfl) (.w (.bin rfl rfl BinR.lss_i) ?_)))
   refine .nil (.tn ?_)
   refine .cn rfl (fun hc4 => ?_) (fun hc4 => ?_)
   ·obtain ⟨sx, hsx⟩ : ∃ sx, sx = L.getD k SZ := ⟨_, rfl⟩
    have hso : SXok sx := by rw [hsx]; exact hL _ (stp_mem (by omega))
    obtain ⟨tx, hT⟩ : ∃ tx, tx = (L.getD k SZ).tx := ⟨_, rfl⟩
    have hTs : tx = sx.tx := by rw [hT, hsx]
    have hTc : ∀ a ∈ tx.com, a < 115792089237316195423570985008687907853269984665640564039457584007913129639936 := by rw [hTs]; exact hso.com
    have hTv : tx.val < 115792089237316195423570985008687907853269984665640564039457584007913129639936 := by rw [hTs]; exact hso.val
    refine JC.open (r := Res.rd tx.v tx.com.length 4 (bks natC tx.com)) (G := stpRes L) zq7 (by rw [hT]; exact stp_res (by omega)) ?_
    refine .skip (.tn (.seq (.block (.seq (.region ?_)))))
    refine .w (.move rfl) (.w (.move rfl) (.w (.ix Tryz.underlying26 sz_44 rfl rfl) (.w (.fieldAddr fa_44_1 rfl) (.w (.fieldAddr fa_42_0 rfl) (.w (.as (v' := it sx.kind) (.ld one_3 rfl (hj := by exact stp_kd (by omega))) (congrArg (fun s : SX => it s.kind) hsx.symm)) (.w (.bin rfl rfl BinR.leq_i) ?_))))))
    refine .nil (.tn ?_)
    refine .cn rfl (fun hc5 => ?_) (fun hc5 => ?_)
    ·skip
     refine .seq ?_
     refine JC.draw (.one 0 (.one 1 (.one 2 (.one 3 (.one 4 (.one 5 (.one 6 (.one 7 (.one 8 (.one 9 (.one 10 (.one 11 (.one 12 .nil))))))))))))) (fun i => ([11] : List Nat).contains i) (fun i => ([11] : List Nat).contains i) (fun i => ([0, 1, 2, 3, 4, 5, 6, 7, 8, 9, 10, 12] : List Nat).contains i) mixed (by kernel_rfl) (by decide) (by kernel_rfl) ?_
     refine .uw rfl (.move rfl) (.uw rfl (.move rfl) (.uw rfl (.move rfl) (.uw rfl (.ix Tryz.underlying26 sz_44 rfl rfl) (.uw rfl (.fieldAddr fa_44_0 rfl) (.uw rfl (.as (v' := it sx.at_) (.ld one_3 rfl (hj := by exact stp_at (by omega))) (congrArg (fun s : SX => it s.at_) hsx.symm)) (.uw rfl (.move rfl) ?_))))))
     refine .uw rfl (.move rfl) (.uw rfl (.ix Tryz.underlying26 sz_44 rfl rfl) (.uw rfl (.fieldAddr fa_44_1 rfl) (.uw rfl (.as (v' := .agg (txC tx).toArray) (.lda agg_42 rfl (hm := by first | exact AM.own zq5 (by rw [bks_len]; omega) | exact AM.ro zq5 (by rw [bks_len]; omega) | exact AM.ownAt zq5 (by rw [bks_len]; omega) | exact AM.rd zq8 (by rw [bks_len]; omega) | exact AM.row zq7 (by rw [bks_len]; omega))) (congrArg (fun l : List Value => Value.agg l.toArray) ((stp_tx (by omega)).trans (congrArg txC hT.symm)))) ?_)))
     refine .mw rfl (.cb (f12_spec z ds hzd sx.at_ hso.at_ tx hTc hTv) body_12 (h0 := by rintro _ _ _ ⟨_, _, h, _⟩; exact h)) ?_
     rintro _ _ _ ⟨_, ⟨cx1, rfl, _, rfl⟩, hΓ, hH⟩
     simp only [List.cons_append, List.nil_append] at hH; subst hΓ hH
     obtain ⟨ds2, hd2⟩ : ∃ ds2, ds2 = applyN z ds sx.at_ tx hTv cx1 := ⟨_, rfl⟩
     rw [← hd2]
     have hds2 : EOk z ds2 := by rw [hd2]; exact hzd.apply sx.at_ tx hTc hTv cx1
     have hAd2 : AllR z.γ ds2 := by rw [hd2]; exact hAd.apply hzd hSG sx.at_ tx hTv cx1
     have hdl2 : ds2.length = S.length := by rw [hd2]; exact (apply_len z ds sx.at_ tx hTv cx1).trans hdl1
     refine kp ?_
     refine .uw rfl (.assign rfl) ?_
     refine .nil (.tn (.seq ?_))
     refine JC.draw (.one 0 (.one 1 (.one 2 (.one 3 (.one 4 (.one 5 (.one 6 (.one 7 (.one 8 (.one 9 (.one 10 (.one 11 (.one 12 .nil))))))))))))) (fun i => ([11] : List Nat).contains i) (fun i => ([11] : List Nat).contains i) (fun i => ([0, 1, 2, 3, 4, 5, 6, 7, 8, 9, 10, 12] : List Nat).contains i) mixed (by kernel_rfl) (by decide) (by kernel_rfl) ?_
     refine .uw rfl (.move rfl) (.uw rfl (.move rfl) (.uw rfl (.move rfl) (.uw rfl (.ix Tryz.underlying26 sz_44 rfl rfl) (.uw rfl (.fieldAddr fa_44_0 rfl) (.uw rfl (.as (v' := it sx.at_) (.ld one_3 rfl (hj := by exact stp_at (by omega))) (congrArg (fun s : SX => it s.at_) hsx.symm)) (.uw rfl (.move rfl) ?_))))))
     refine .uw rfl (.move rfl) (.uw rfl (.ix Tryz.underlying26 sz_44 rfl rfl) (.uw rfl (.fieldAddr fa_44_1 rfl) (.uw rfl (.as (v' := .agg (txC tx).toArray) (.lda agg_42 rfl (hm := by first | exact AM.own zq5 (by rw [bks_len]; omega) | exact AM.ro zq5 (by rw [bks_len]; omega) | exact AM.ownAt zq5 (by rw [bks_len]; omega) | exact AM.rd zq8 (by rw [bks_len]; omega) | exact AM.row zq7 (by rw [bks_len]; omega))) (congrArg (fun l : List Value => Value.agg l.toArray) ((stp_tx (by omega)).trans (congrArg txC hT.symm)))) ?_)))
     have hA2 := f12_spec z' es hze sx.at_ hso.at_ tx hTc hTv
     rw [hgz] at hA2
     refine .mw rfl (.cb hA2 body_12 (h0 := by rintro _ _ _ ⟨_, _, h, _⟩; exact h)) ?_
     rintro _ _ _ ⟨_, ⟨cx2, rfl, _, rfl⟩, hΓ, hH⟩
     simp only [List.cons_append, List.nil_append] at hH; subst hΓ hH
     obtain ⟨es2, he2⟩ : ∃ es2, es2 = applyN z' es sx.at_ tx hTv cx2 := ⟨_, rfl⟩
     rw [← he2]
     have hes2 : EOk z' es2 := by rw [he2]; exact hze.apply sx.at_ tx hTc hTv cx2
     have hAe2 : AllR z'.γ es2 := by rw [he2]; exact hAe.apply hze hSG' sx.at_ tx hTv cx2
     have hel2 : es2.length = S.length := by rw [he2]; exact (apply_len z' es sx.at_ tx hTv cx2).trans hel1
     have hal2 := hal.apply hza sx.at_ tx hTv cx1 cx2
     rw [← hd2, ← he2] at hal2
     have hsame := hal2.1
     refine kp ?_
     refine .uw rfl (.assign rfl) ?_
     refine .nil (.tn (.seq (.region ?_)))
     refine .w (.move rfl) (.w (.move rfl) (.w (.as (v' := .bool false) (.bin rfl rfl BinR.neq_i) (congrArg Value.bool (decide_eq_false (fun h => h hsame.symm)))) ?_))
     refine .nil (.tn ?_)
     refine .cf rfl ?_
     refine .skip (.block_normal (.tn (.region ?_)))
     refine .w (.move rfl) (.w (.asI ((k + 1 : Nat) : Int) (.bin rfl rfl (BinR.add_i zq3))) (.w (.assign rfl) (.nil ?_)))
     refine .hd (k + 1, ds2, es2) ?_
     exact ⟨⟨by dsimp only; omega, hds2, hes2, hdl2, hel2, hal2.2, hAd2, hAe2⟩, by dsimp only; omega⟩
    ·skip
     refine .skip (.block_normal (.tn (.region ?_)))
     refine .w (.move rfl) (.w (.asI ((k + 1 : Nat) : Int) (.bin rfl rfl (BinR.add_i zq3))) (.w (.assign rfl) (.nil ?_)))
     refine .hd (k + 1, ds, es) ?_
     exact ⟨⟨by dsimp only; omega, hzd, hze, hdl1, hel1, hal, hAd, hAe⟩, by dsimp only; omega⟩
   ·obtain rfl : k = L.length := by omega
    refine .exit (.then_exit (.then_exit (.block_exit (.tn (.seq (.seq (.region ?_)))))))
    refine .w (.assign rfl) ?_
    refine .nil (.tn (.block ?_))
    refine .lp (ι := Nat × List DL) (fun x => x.1 ≤ La.length ∧ EOk z x.2 ∧ x.2.length = S.length ∧ AllR z.γ x.2 ∧ KpL ds x.2) (fun T x => (24, it (x.1 : Int)) :: T) (fun T _ => T) (fun T x => Res.sep (x.2.map dR) :: T) (fun x => La.length - x.1) (0, ds) [5, 6, 14, 15, 17, 19, 25, 26, 27, 28, 29, 30, 31, 32, 33, 34, 35, 157, 158, 159, 160, 161, 162, 163, 164, 165, 166, 167, 168, 169, 170, 171, 172, 173, 174, 175, 176, 177, 178, 179, 180, 182, 183, 184, 185, 186, 187, 188, 189, 190, 191, 192, 193, 194, 195, 196, 197, 198, 199, 200, 201, 202, 203, 204, 205, 206, 207, 208, 209, 210, 211, 212, 213, 214, 215, 216, 217, 218, 219, 220, 221, 222, 223, 224, 225, 226, 227, 228, 229, 230, 231, 232, 233, 234, 235, 236, 237, 238, 239, 240, 241, 242, 243, 244, 245, 246] ?_ (fun x hx => ?_)
    ·exact ⟨Nat.zero_le _, hzd, hdl1, hAd, KpL.refl _⟩
    obtain ⟨k, da⟩ := x
    obtain ⟨hk, hda, hdal, hAda, hka⟩ := hx
    dsimp only at hk hda hdal hAda hka ⊢
    refine .seq (.seq (.region ?_))
    refine .w (.move rfl) (.w (.move rfl) (.w (.len Tryz.underlying26 rfl) (.w (.bin rfl rfl BinR.lss_i) ?_)))
    refine .nil (.tn ?_)
    refine .cn rfl (fun hc7 => ?_) (fun hc7 => ?_)
    ·obtain ⟨sx, hsx⟩ : ∃ sx, sx = La.getD k SZ := ⟨_, rfl⟩
     have hso : SXok sx := by rw [hsx]; exact hLa _ (stp_mem (by omega))
     obtain ⟨tx, hT⟩ : ∃ tx, tx = (La.getD k SZ).tx := ⟨_, rfl⟩
     have hTs : tx = sx.tx := by rw [hT, hsx]
     have hTc : ∀ a ∈ tx.com, a < 115792089237316195423570985008687907853269984665640564039457584007913129639936 := by rw [hTs]; exact hso.com
     have hTv : tx.val < 115792089237316195423570985008687907853269984665640564039457584007913129639936 := by rw [hTs]; exact hso.val
     refine JC.open (r := Res.rd tx.v tx.com.length 4 (bks natC tx.com)) (G := stpRes La) zq7 (by rw [hT]; exact stp_res (by omega)) ?_
     refine .skip (.tn (.seq (.block (.seq (.region ?_)))))
     refine .w (.move rfl) (.w (.move rfl) (.w (.ix Tryz.underlying26 sz_44 rfl rfl) (.w (.fieldAddr fa_44_1 rfl) (.w (.fieldAddr fa_42_0 rfl) (.w (.as (v' := it sx.kind) (.ld one_3 rfl (hj := by exact stp_kd (by omega))) (congrArg (fun s : SX => it s.kind) hsx.symm)) (.w (.bin rfl rfl BinR.gtr_i) ?_))))))
     refine .nil (.tn ?_)
     refine .cn rfl (fun hc8 => ?_) (fun hc8 => ?_)
     ·skip
      refine JC.draw (.one 0 (.one 1 (.one 2 (.one 3 (.one 4 (.one 5 (.one 6 (.one 7 (.one 8 (.one 9 (.one 10 (.one 11 .nil)))))))))))) (fun i => ([11] : List Nat).contains i) (fun i => ([11] : List Nat).contains i) (fun i => ([0, 1, 2, 3, 4, 5, 6, 7, 8, 9, 10] : List Nat).contains i) mixed (by kernel_rfl) (by decide) (by kernel_rfl) ?_
      refine .uw rfl (.move rfl) (.uw rfl (.move rfl) (.uw rfl (.move rfl) (.uw rfl (.ix Tryz.underlying26 sz_44 rfl rfl) (.uw rfl (.fieldAddr fa_44_0 rfl) (.uw rfl (.as (v' := it sx.at_) (.ld one_3 rfl (hj := by exact stp_at (by omega))) (congrArg (fun s : SX => it s.at_) hsx.symm)) (.uw rfl (.move rfl) ?_))))))
      refine .uw rfl (.move rfl) (.uw rfl (.ix Tryz.underlying26 sz_44 rfl rfl) (.uw rfl (.fieldAddr fa_44_1 rfl) (.uw rfl (.as (v' := .agg (txC tx).toArray) (.lda agg_42 rfl (hm := by first | exact AM.own zq5 (by rw [bks_len]; omega) | exact AM.ro zq5 (by rw [bks_len]; omega) | exact AM.ownAt zq5 (by rw [bks_len]; omega) | exact AM.rd zq8 (by rw [bks_len]; omega) | exact AM.row zq7 (by rw [bks_len]; omega))) (congrArg (fun l : List Value => Value.agg l.toArray) ((stp_tx (by omega)).trans (congrArg txC hT.symm)))) ?_)))
      refine .mw rfl (.cb (f12_spec z da hda sx.at_ hso.at_ tx hTc hTv) body_12 (h0 := by rintro _ _ _ ⟨_, _, h, _⟩; exact h)) ?_
      rintro _ _ _ ⟨_, ⟨cx1, rfl, _, rfl⟩, hΓ, hH⟩
      simp only [List.cons_append, List.nil_append] at hH; subst hΓ hH
      obtain ⟨da2, hd2⟩ : ∃ da2, da2 = applyN z da sx.at_ tx hTv cx1 := ⟨_, rfl⟩
      rw [← hd2]
      have hda2 : EOk z da2 := by rw [hd2]; exact hda.apply sx.at_ tx hTc hTv cx1
      have hAda2 : AllR z.γ da2 := by rw [hd2]; exact hAda.apply hda hSG sx.at_ tx hTv cx1
      have hdal2 : da2.length = S.length := by rw [hd2]; exact (apply_len z da sx.at_ tx hTv cx1).trans hdal
      refine kp ?_
      refine .nil (.block_normal (.tn (.region ?_)))
      refine .w (.move rfl) (.w (.asI ((k + 1 : Nat) : Int) (.bin rfl rfl (BinR.add_i zq3))) (.w (.assign rfl) (.nil ?_)))
      refine .hd (k + 1, da2) ?_
      exact ⟨⟨by dsimp only; omega, hda2, hdal2, hAda2, hka.trans (by rw [hd2]; exact late_kp hda hTv cx1 (by rw [hTs]; exact hc8))⟩, by dsimp only; omega⟩
     ·skip
      refine .skip (.block_normal (.tn (.region ?_)))
      refine .w (.move rfl) (.w (.asI ((k + 1 : Nat) : Int) (.bin rfl rfl (BinR.add_i zq3))) (.w (.assign rfl) (.nil ?_)))
      refine .hd (k + 1, da) ?_
      exact ⟨⟨by dsimp only; omega, hda, hdal, hAda, hka⟩, by dsimp only; omega⟩
    ·obtain rfl : k = La.length := by omega
     refine .exit (.then_exit (.then_exit (.block_exit (.tn (.seq (.seq (.region ?_)))))))
     refine .w (.assign rfl) ?_
     refine .nil (.tn (.block ?_))
     refine .lp (ι := Nat × List DL) (fun x => x.1 ≤ Lb.length ∧ EOk z' x.2 ∧ x.2.length = S.length ∧ AllR z'.γ x.2 ∧ KpL es x.2) (fun T x => (25, it (x.1 : Int)) :: T) (fun T _ => T) (fun T x => Res.sep (x.2.map dR) :: T) (fun x => Lb.length - x.1) (0, es) [6, 14, 15, 17, 19, 26, 27, 28, 29, 30, 31, 32, 33, 34, 35, 182, 183, 184, 185, 186, 187, 188, 189, 190, 191, 192, 193, 194, 195, 196, 197, 198, 199, 200, 201, 202, 203, 204, 205, 206, 207, 208, 209, 210, 211, 212, 213, 214, 215, 216, 217, 218, 219, 220, 221, 222, 223, 224, 225, 226, 227, 228, 229, 230, 231, 232, 233, 234, 235, 236, 237, 238, 239, 240, 241, 242, 243, 244, 245, 246] ?_ (fun x hx => ?_)
     ·exact ⟨Nat.zero_le _, hze, hel1, hAe, KpL.refl _⟩
     obtain ⟨k, eb⟩ := x
     obtain ⟨hk, heb, hebl, hAeb, hkb⟩ := hx
     dsimp only at hk heb hebl hAeb hkb ⊢
     refine .seq (.seq (.region ?_))
     refine .w (.move rfl) (.w (.move rfl) (.w (.len Tryz.underlying26 rfl) (.w (.bin rfl rfl BinR.lss_i) ?_)))
     refine .nil (.tn ?_)
     refine .cn rfl (fun hc9 => ?_) (fun hc9 => ?_)
     ·obtain ⟨sx, hsx⟩ : ∃ sx, sx = Lb.getD k SZ := ⟨_, rfl⟩
      have hso : SXok sx := by rw [hsx]; exact hLb _ (stp_mem (by omega))
      obtain ⟨tx, hT⟩ : ∃ tx, tx = (Lb.getD k SZ).tx := ⟨_, rfl⟩
      have hTs : tx = sx.tx := by rw [hT, hsx]
      have hTc : ∀ a ∈ tx.com, a < 115792089237316195423570985008687907853269984665640564039457584007913129639936 := by rw [hTs]; exact hso.com
      have hTv : tx.val < 115792089237316195423570985008687907853269984665640564039457584007913129639936 := by rw [hTs]; exact hso.val
      refine JC.open (r := Res.rd tx.v tx.com.length 4 (bks natC tx.com)) (G := stpRes Lb) zq7 (by rw [hT]; exact stp_res (by omega)) ?_
      refine .skip (.tn (.seq (.block (.seq (.region ?_)))))
      refine .w (.move rfl) (.w (.move rfl) (.w (.ix Tryz.underlying26 sz_44 rfl rfl) (.w (.fieldAddr fa_44_1 rfl) (.w (.fieldAddr fa_42_0 rfl) (.w (.as (v' := it sx.kind) (.ld one_3 rfl (hj := by exact stp_kd (by omega))) (congrArg (fun s : SX => it s.kind) hsx.symm)) (.w (.bin rfl rfl BinR.gtr_i) ?_))))))
      refine .nil (.tn ?_)
      refine .cn rfl (fun hc10 => ?_) (fun hc10 => ?_)
      ·skip
       refine JC.draw (.one 0 (.one 1 (.one 2 (.one 3 (.one 4 (.one 5 (.one 6 (.one 7 (.one 8 (.one 9 (.one 10 (.one 11 .nil)))))))))))) (fun i => ([11] : List Nat).contains i) (fun i => ([11] : List Nat).contains i) (fun i => ([0, 1, 2, 3, 4, 5, 6, 7, 8, 9, 10] : List Nat).contains i) mixed (by kernel_rfl) (by decide) (by kernel_rfl) ?_
       refine .uw rfl (.move rfl) (.uw rfl (.move rfl) (.uw rfl (.move rfl) (.uw rfl (.ix Tryz.underlying26 sz_44 rfl rfl) (.uw rfl (.fieldAddr fa_44_0 rfl) (.uw rfl (.as (v' := it sx.at_) (.ld one_3 rfl (hj := by exact stp_at (by omega))) (congrArg (fun s : SX => it s.at_) hsx.symm)) (.uw rfl (.move rfl) ?_))))))
       refine .uw rfl (.move rfl) (.uw rfl (.ix Tryz.underlying26 sz_44 rfl rfl) (.uw rfl (.fieldAddr fa_44_1 rfl) (.uw rfl (.as (v' := .agg (txC tx).toArray) (.lda agg_42 rfl (hm := by first | exact AM.own zq5 (by rw [bks_len]; omega) | exact AM.ro zq5 (by rw [bks_len]; omega) | exact AM.ownAt zq5 (by rw [bks_len]; omega) | exact AM.rd zq8 (by rw [bks_len]; omega) | exact AM.row zq7 (by rw [bks_len]; omega))) (congrArg (fun l : List Value => Value.agg l.toArray) ((stp_tx (by omega)).trans (congrArg txC hT.symm)))) ?_)))
       have hA2 := f12_spec z' eb heb sx.at_ hso.at_ tx hTc hTv
       rw [hgz] at hA2
       refine .mw rfl (.cb hA2 body_12 (h0 := by rintro _ _ _ ⟨_, _, h, _⟩; exact h)) ?_
       rintro _ _ _ ⟨_, ⟨cx2, rfl, _, rfl⟩, hΓ, hH⟩
       simp only [List.cons_append, List.nil_append] at hH; subst hΓ hH
       obtain ⟨eb2, he2⟩ : ∃ eb2, eb2 = applyN z' eb sx.at_ tx hTv cx2 := ⟨_, rfl⟩
       rw [← he2]
       have heb2 : EOk z' eb2 := by rw [he2]; exact heb.apply sx.at_ tx hTc hTv cx2
       have hAeb2 : AllR z'.γ eb2 := by rw [he2]; exact hAeb.apply heb hSG' sx.at_ tx hTv cx2
       have hebl2 : eb2.length = S.length := by rw [he2]; exact (apply_len z' eb sx.at_ tx hTv cx2).trans hebl
       refine kp ?_
       refine .nil (.block_normal (.tn (.region ?_)))
       refine .w (.move rfl) (.w (.asI ((k + 1 : Nat) : Int) (.bin rfl rfl (BinR.add_i zq3))) (.w (.assign rfl) (.nil ?_)))
       refine .hd (k + 1, eb2) ?_
       exact ⟨⟨by dsimp only; omega, heb2, hebl2, hAeb2, hkb.trans (by rw [he2]; exact late_kp heb hTv cx2 (by rw [hTs]; exact hc10))⟩, by dsimp only; omega⟩
      ·skip
       refine .skip (.block_normal (.tn (.region ?_)))
       refine .w (.move rfl) (.w (.asI ((k + 1 : Nat) : Int) (.bin rfl rfl (BinR.add_i zq3))) (.w (.assign rfl) (.nil ?_)))
       refine .hd (k + 1, eb) ?_
       exact ⟨⟨by dsimp only; omega, heb, hebl, hAeb, hkb⟩, by dsimp only; omega⟩
     ·obtain rfl : k = Lb.length := by omega
      have hkk : KpL da eb := (hka.symm.trans hal.kp).trans hkb
      refine .exit (.then_exit (.then_exit (.block_exit (.tn (.seq (.region ?_))))))
      refine .w (.move rfl) (.cb (f14_spec z da hda.ps (by omega)) body_14 ?_ (h0 := by rintro _ _ _ ⟨_, _, h, _⟩; exact h))
      rintro vq _ ⟨_, rfl, _, rfl⟩
      refine .ap ?_
      refine JO.freeze (v := vq) zq12 (by decide) ?_
      have hqal := qual_len z.own da da.length
      obtain ⟨qa, hqa⟩ : ∃ qa, qa = qualT z.own da da.length := ⟨_, rfl⟩
      rw [← hqa] at hqal ⊢
      refine .w (.assign rfl) ?_
      refine .nil (.tn (.seq (.region ?_)))
      refine .w (.move rfl) (.c (f15_spec z da hda.ps (by omega) hSG hda.ds hAda) body_15 ?_)
      refine .w (.move rfl) (.w (.as (v' := dgV (seedR z da)) (.extract rfl rfl) rfl) (.w (.as (v' := .bool (decide (AllB z.own da))) (.extract rfl rfl) rfl) (.al zero_35 fun b27 => ?_)))
      refine .sa sz_35 ?_ (h1 := (dgv_one _))
      refine .w (.assign rfl) ?_
      refine .nil (.tn (.seq (.region ?_)))
      refine .w (.move rfl) ?_
      have hS2 := f15_spec z' eb heb.ps (by omega) hSG' heb.ds hAeb
      rw [hgz] at hS2
      refine .c hS2 body_15 ?_
      refine .w (.move rfl) (.w (.as (v' := dgV (seedR z' eb)) (.extract rfl rfl) rfl) (.w (.as (v' := .bool (decide (AllB z'.own eb))) (.extract rfl rfl) rfl) (.al zero_35 fun b29 => ?_)))
      refine .sa sz_35 ?_ (h1 := (dgv_one _))
      refine .w (.assign rfl) ?_
      refine .nil (.tn (.seq (.seq (.region ?_))))
      refine .w (.assign rfl) ?_
      refine .nil (.tn (.block ?_))
      refine .lp (ι := Nat) (fun x => x ≤ qa.length) (fun T x => (31, it (x : Int)) :: T) (fun T _ => T) (fun T _ => T) (fun x => qa.length - x) 0 [15, 17, 19, 26, 27, 28, 29, 30, 227, 228, 229, 230, 231, 232, 233, 234, 235, 236, 237, 238, 239, 240, 241, 242, 243, 244, 245, 246] ?_ (fun x hx => ?_)
      ·exact Nat.zero_le _
      obtain ⟨k, hk⟩ : ∃ k, k = x := ⟨_, rfl⟩
      subst hk
      refine .seq (.seq (.region ?_))
      refine .w (.move rfl) (.w (.move rfl) (.w (.len Tryz.underlying37 rfl) (.w (.bin rfl rfl BinR.lss_i) ?_)))
      refine .nil (.tn ?_)
      refine .cn rfl (fun hc11 => ?_) (fun hc11 => ?_)
      ·have hmem : qa.getD k 0 ∈ qualT z.own da da.length := by rw [← hqa]; exact getD_mem' 0 (by omega)
       obtain ⟨j, hj, hjd, hjq⟩ := qual_mem.1 hmem
       have hje : j < eb.length := by omega
       refine .skip (.tn (.seq (.block (.seq (.region ?_)))))
       refine .w (.move rfl) (.w (.move rfl) (.w (.move rfl) (.w (.ix1 Tryz.underlying37 sz_3 rfl rfl) (.w (.as (v' := it (j : Int)) (.ld one_3 rfl (hj := by exact gm (d := 0) (by omega))) (congrArg it hj)) (.c (f16_spec z da hda.ps (by omega) hSG hda.ds hAda j hjd) body_16 ?_)))))
       refine .w (.move rfl) (.w (.as (v' := .agg ((wd (if QualP z.own (da.getD j DZ) ∧ SecP (da.getD j DZ) then secN z.γ (da.getD j DZ) else 0)).map u64).toArray) (.extract rfl rfl) rfl) (.w (.as (v' := .bool (decide (QualP z.own (da.getD j DZ) ∧ SecP (da.getD j DZ)))) (.extract rfl rfl) rfl) (.al zero_40 fun b32 => ?_)))
       refine .sa sz_40 ?_
       refine .w (.assign rfl) ?_
       refine .nil (.tn (.seq (.region ?_)))
       refine .w (.move rfl) (.w (.move rfl) (.w (.move rfl) (.w (.ix1 Tryz.underlying37 sz_3 rfl rfl) (.w (.as (v' := it (j : Int)) (.ld one_3 rfl (hj := by exact gm (d := 0) (by omega))) (congrArg it hj)) ?_))))
       have hS2 := f16_spec z' eb heb.ps (by omega) hSG' heb.ds hAeb j hje
       rw [hgz] at hS2
       refine .c hS2 body_16 ?_
       refine .w (.move rfl) (.w (.as (v' := .agg ((wd (if QualP z'.own (eb.getD j DZ) ∧ SecP (eb.getD j DZ) then secN z.γ (eb.getD j DZ) else 0)).map u64).toArray) (.extract rfl rfl) rfl) (.w (.as (v' := .bool (decide (QualP z'.own (eb.getD j DZ) ∧ SecP (eb.getD j DZ)))) (.extract rfl rfl) rfl) (.al zero_40 fun b34 => ?_)))
       refine .sa sz_40 ?_
       refine .w (.assign rfl) ?_
       refine .nil (.tn (.seq (.region ?_)))
       refine .join 9 226 (.bool false) ?_ ?_
       ·refine .w (.move rfl) (.w (.move rfl) ?_)
        refine .gn (g := 33) rfl (fun hg218 hg218' => ?_) (fun hg218 hg218' => ?_)
        ·refine .gt (g := 219) rfl rfl hg218 ?_
         refine .w (.move rfl) (.w (.pick1 rfl hg218 rfl) (.w (.move rfl) ?_))
         refine .gn (g := 221) rfl (fun hg221 hg221' => ?_) (fun hg221 hg221' => ?_)
         ·have hxy : (if QualP z.own (da.getD j DZ) ∧ SecP (da.getD j DZ) then secN z.γ (da.getD j DZ) else 0) = (if QualP z'.own (eb.getD j DZ) ∧ SecP (eb.getD j DZ) then secN z.γ (eb.getD j DZ) else 0) := by
           rw [if_pos (by first | exact hg218' | simpa using hg218'), if_pos (by first | exact hg221' | simpa using hg221')]
           unfold secN
           rw [(hkk.2 j).com]
          refine .gt (g := 222) rfl rfl hg221 ?_
          refine .w (.as (v' := .agg ((wd (if QualP z.own (da.getD j DZ) ∧ SecP (da.getD j DZ) then secN z.γ (da.getD j DZ) else 0)).map u64).toArray) (.lda agg_40 rfl) (by rfl)) ?_
          refine .gt (g := 222) rfl rfl hg221 ?_
          refine .w (.as (v' := .agg ((wd (if QualP z'.own (eb.getD j DZ) ∧ SecP (eb.getD j DZ) then secN z.γ (eb.getD j DZ) else 0)).map u64).toArray) (.lda agg_40 rfl) (by rfl)) ?_
          refine .gt (g := 222) rfl rfl hg221 ?_
          refine .w (.as (v' := .bool false) (.bin rfl rfl (neq_nat wd_len' wd_len')) (congrArg Value.bool (by rw [hxy]; simp))) (.w (.pick1 rfl hg221 rfl) (.nil ?_))
          refine .head () zq19 (fun _ h => h) (Picks.perm zq1) ?_
          trivial
         ·refine .gf (g := 222) rfl rfl hg221 (by decide) ?_
          refine .gf (g := 222) rfl rfl hg221 (by decide) ?_
          refine .gf (g := 222) rfl rfl hg221 (by decide) ?_
          refine .w (.pick0 rfl hg221 rfl) (.nil ?_)
          refine .head () zq19 (fun _ h => h) (Picks.perm zq1) ?_
          trivial
        ·refine .gf (g := 219) rfl rfl hg218 (by decide) ?_
         refine .w (.pick0 rfl hg218 rfl) (.w (.move rfl) ?_)
         refine .gf (g := 222) rfl rfl rfl (by decide) ?_
         refine .gf (g := 222) rfl rfl rfl (by decide) ?_
         refine .gf (g := 222) rfl rfl rfl (by decide) ?_
         refine .w (.pick0 rfl rfl rfl) (.nil ?_)
         refine .head () zq19 (fun _ h => h) (Picks.perm zq1) ?_
         trivial
       ·refine .nil (.tn ?_)
        refine .cf rfl ?_
        refine .skip (.block_normal (.tn (.region ?_)))
        refine .w (.move rfl) (.w (.asI ((k + 1 : Nat) : Int) (.bin rfl rfl (BinR.add_i zq3))) (.w (.assign rfl) (.nil ?_)))
        refine .hd (k + 1) ?_
        exact ⟨by omega, by omega⟩
      ·obtain rfl : k = qa.length := by omega
       refine .exit (.then_exit (.then_exit (.block_exit (.tn (.seq (.region ?_))))))
       refine .w (.move rfl) (.w (.move rfl) ?_)
       refine .gt (g := 228) rfl rfl rfl ?_
       refine .w (.move rfl) ?_
       refine .gt (g := 228) rfl rfl rfl ?_
       refine .w (.move rfl) ?_
       refine .gt (g := 228) rfl rfl rfl ?_
       refine .cb (f14_spec z' eb heb.ps (by omega)) body_14 ?_ (h0 := by rintro _ _ _ ⟨_, _, h, _⟩; exact h)
       rintro vq2 _ ⟨_, rfl, _, rfl⟩
       refine .ap ?_
       rw [show qualT z'.own eb eb.length = qa from by rw [hqa, hkk.1, hza.own, hkk.quals]]
       refine .gt (g := 228) rfl rfl rfl ?_
       refine .c (f17_spec vq vq2 qa qa (by omega) (by omega)) body_17 ?_
       rw [show decide (qa = qa) = true from decide_eq_true rfl]
       refine .w (.pick1 rfl rfl rfl) (.w (.move rfl) ?_)
       refine .join 11 245 (.bool true) ?_ ?_
       ·refine .gt (g := 234) rfl rfl rfl ?_
        refine .w (.move rfl) ?_
        refine .gt (g := 234) rfl rfl rfl ?_
        refine .w (.not rfl) ?_
        refine .gt (g := 234) rfl rfl rfl ?_
        refine .w (.move rfl) ?_
        refine .gn (g := 236) rfl (fun hg240 hg240' => ?_) (fun hg240 hg240' => ?_)
        ·refine .gf (g := 237) rfl rfl hg240 (by decide) ?_
         refine .gf (g := 237) rfl rfl hg240 (by decide) ?_
         refine .gt (g := 234) rfl rfl rfl ?_
         refine .w (.pick1 rfl hg240 rfl) ?_
         refine .gt (g := 234) rfl rfl rfl ?_
         refine .w (.move rfl) ?_
         refine .gf (g := 241) rfl rfl rfl (by decide) ?_
         refine .gf (g := 241) rfl rfl rfl (by decide) ?_
         refine .gf (g := 241) rfl rfl rfl (by decide) ?_
         refine .gt (g := 234) rfl rfl rfl ?_
         refine .w (.pick1 rfl rfl rfl) (.nil ?_)
         refine .head () zq19 (fun _ h => h) (Picks.perm zq1) ?_
         trivial
        ·refine .gt (g := 237) rfl rfl hg240 ?_
         refine .w (.move rfl) ?_
         refine .gt (g := 237) rfl rfl hg240 ?_
         refine .w (.not rfl) ?_
         refine .gt (g := 234) rfl rfl rfl ?_
         refine .w (.pick0 rfl hg240 rfl) ?_
         refine .gt (g := 234) rfl rfl rfl ?_
         refine .w (.move rfl) ?_
         refine .gn (g := 240) rfl (fun hg244 hg244' => ?_) (fun hg244 hg244' => ?_)
         ·refine .gf (g := 241) rfl rfl hg244 (by decide) ?_
          refine .gf (g := 241) rfl rfl hg244 (by decide) ?_
          refine .gf (g := 241) rfl rfl hg244 (by decide) ?_
          refine .gt (g := 234) rfl rfl rfl ?_
          refine .w (.pick1 rfl hg244 rfl) (.nil ?_)
          refine .head () zq19 (fun _ h => h) (Picks.perm zq1) ?_
          trivial
         ·have hsd : seedR z da = seedR z' eb := (hkk.seed hza (by first | exact hg240' | simpa using hg240') (by first | exact hg244' | simpa using hg244')).symm
          refine .gt (g := 241) rfl rfl hg244 ?_
          refine .w (.as (v' := dgV (seedR z da)) (.lda agg_35 rfl) (by rfl)) ?_
          refine .gt (g := 241) rfl rfl hg244 ?_
          refine .w (.as (v' := dgV (seedR z' eb)) (.lda agg_35 rfl) (by rfl)) ?_
          refine .gt (g := 241) rfl rfl hg244 ?_
          refine .w (.as (v' := .bool true) (.bin rfl rfl (eql_dig)) (congrArg Value.bool (decide_eq_true hsd))) ?_
          refine .gt (g := 234) rfl rfl rfl ?_
          refine .w (.pick0 rfl hg244 rfl) (.nil ?_)
          refine .head () zq19 (fun _ h => h) (Picks.perm zq1) ?_
          trivial
       ·refine .w (.pick rfl rfl rfl) (.w (.assign rfl) ?_)
        refine .nil (.tn (.ret ?_))
        exact .dn [] [] (res1 rfl (.tmp rfl)) ⟨rfl, rfl, rfl⟩
theorem f4_spec (sv uv ua ub : Value) (wh : Int) (c : Cfg) (S : List W64) (prev : D32) (L : List SX) (hL : ∀ s ∈ L, SXok s) (La : List SX) (hLa : ∀ s ∈ La, SXok s) (Lb : List SX) (hLb : ∀ s ∈ Lb, SXok s) : Spec Tryz.prog 4 #[(it wh), (.agg (cfgC c).toArray), sv, (.agg (prevC prev).toArray), uv, ua, ub] [Res.var 0 ((wd 5).map u64), Res.var 1 ((wd 2).map u64), Res.var 2 ((wd 1).map u64), Res.var 3 ((wd 2).map u64), Res.var 5 (sqr.map u32), Res.var 4 (cub.map u32), Res.rd sv S.length 1 (S.map u64), Res.rd uv L.length 10 (bks stpC L), Res.all (stpRes L), Res.rd ua La.length 10 (bks stpC La), Res.all (stpRes La), Res.rd ub Lb.length 10 (bks stpC Lb), Res.all (stpRes Lb)] [] (fun r Γ' H' => r = (.bool true) ∧ Γ' = [] ∧ H' = []) := by
 rw [show (Value.agg (prevC prev).toArray) = dgV prev from congrArg (fun l : List Value => Value.agg l.toArray) (prevC_eq prev)]
 by_cases hE : newE (gG wh) c S = 0
 ·exact f4a_spec sv uv ua ub wh c S prev L hL La hLa Lb hLb hE
 ·exact f4b_spec sv uv ua ub wh c S prev L hL La hLa Lb hLb hE
end Go.Proofs.YtmhiapebljfebaaGreatDoor
