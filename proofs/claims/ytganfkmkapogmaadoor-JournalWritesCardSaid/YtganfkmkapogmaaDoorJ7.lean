/- Walk: awake. -/
import Derived.Test.YtganfkmkapogmaaDoorJ5
import Derived.Test.YtganfkmkapogmaaDoorJ6
namespace Go.Proofs.YtganfkmkapogmaaDoor
open Go.RowKit
set_option maxRecDepth 100000
set_option linter.unusedVariables false
set_option linter.unusedSimpArgs false
theorem lists_cut (l m u : Value) (d : B8) (A : Pcs) : Spec Tryd.prog 15 #[l, m] [Res.rd l A.length 1 (A.map Prod.fst), Res.rd m (recs d).length 1 ((cutsP u d (recs d).length).map Prod.fst), Res.all (pcRes A), Res.rd u d.length 1 (d.map u8)] [] (fun r Γ' H' => r = .bool (decide (bytesP A = recs d)) ∧ Γ' = [] ∧ H' = []) := by
  have h := cuts_from (Γ := [Res.rd l A.length 1 (A.map Prod.fst), Res.rd m (recs d).length 1 ((cutsP u d (recs d).length).map Prod.fst), Res.all (pcRes A)]) (u := u) (d := d) (H := []) (post := fun r Γ' H' => r = .bool (decide (bytesP A = bytesP (cutsP u d (recs d).length))) ∧ Γ' = [] ∧ H' = []) (by have := f15_spec l m A (cutsP u d (recs d).length); rw [cutsP_len] at this; exact this)
  rw [cutsP_bytes] at h
  exact h

theorem f8_spec  :
    Spec Tryd.prog 8 #[] [Res.var 1 (sqr.map u32), Res.var 0 (cub.map u32)] []
      (fun r Γ' H' => r = .bool true ∧ Γ' = [] ∧ H' = []) := by
  refine Spec.of_args Tryd.func8 rfl Tryd.ntmps8 (by simp) fun w => ?_
  have hL0 : recs (flat [[1#8, 2#8], []]) = [[1#8, 2#8], []] := recs_flat0 (by simp [Small])
  have hD3 : recs (flat [[1#8, 2#8], []] ++ (frameB [3#8]).take 8) = [[1#8, 2#8], []] := by rw [recs_flat (by simp [Small]), recs_part (by simp) (by simp), List.append_nil]
  have hl3 : (flat [[1#8, 2#8], []] ++ (frameB [3#8]).take 8).length ≤ 100000 := by rw [List.length_append, flat_len, List.length_take, frameB_len]; decide
  refine .seq (.region ?_)
  refine .w (.assign rfl) ?_
  refine .nil (.tn (.seq (.region ?_)))
  refine JO.nilRd 1 ?_
  refine .cb (f11_spec (.slice none 0 0) [] (by decide)) body_11 ?_ (h0 := by rintro _ _ _ ⟨_, _, _, h, _⟩; exact h)
  rintro _ _ ⟨p, v, rfl, _, rfl⟩
  refine .ap ?_
  rw [recs_nil, flat_nil]
  refine .w (.assign rfl) ?_
  refine .nil (.tn (.seq (.seq (.region ?_))))
  refine .w (.move rfl) ?_
  refine .w (.as (v' := .bool false) (.bin rfl rfl (BinR.eql_p Tryd.underlying27)) rfl) ?_
  refine .nil (.tn ?_)
  refine .cf rfl ?_
  refine .skip (.tn (.seq (.region ?_)))
  refine .w (.move rfl) ?_
  refine .l1 Tryd.underlying22 info_5 (fun v9 => ?_)
  refine .cb (f20Ok_spec p v v9 [] [1#8, 2#8] (by decide) (by decide)) body_20 ?_ (h0 := by rintro _ _ _ ⟨_, _, h, _⟩; exact h)
  rintro _ _ ⟨v1, rfl, _, rfl⟩
  refine .ap ?_
  rw [List.nil_append, ← flat_one]
  refine .nil (.tn (.seq (.region ?_)))
  refine .w (.move rfl) ?_
  refine .cb (f20Ok_spec p v1 (.slice none 0 0) (flat [[1#8, 2#8]]) [] (by decide) (by rw [flat_len]; decide)) body_20 ?_ (h0 := by rintro _ _ _ ⟨_, _, h, _⟩; exact h)
  rintro _ _ ⟨v2, rfl, _, rfl⟩
  refine .ap ?_
  rw [← flat_one [], ← flat_app, show [[1#8, 2#8]] ++ [[]] = [[1#8, 2#8], []] from rfl]
  refine .nil (.tn (.seq (.region ?_)))
  refine .w (.move rfl) ?_
  refine .cb (f12_spec p v2 (flat [[1#8, 2#8], []]) (by rw [flat_len]; decide)) body_12 ?_ (h0 := by rintro _ _ _ ⟨_, _, h, _⟩; exact h)
  rintro v14 _ ⟨A, hA, _, rfl⟩
  refine .ap ?_
  refine JO.frzP (by repeat (first | exact Pull.here _ _ | apply Pull.there)) ?_
  refine .w (.assign rfl) ?_
  refine .nil (.tn (.seq (.region ?_)))
  refine .w (.move rfl) ?_
  refine .l1 Tryd.underlying22 info_5 (fun v16 => ?_)
  refine .cb (f19Ok_spec p v2 v16 (flat [[1#8, 2#8], []]) [3#8] 8 (by decide) (by rw [flat_len]; decide)) body_19 ?_ (h0 := by rintro _ _ _ ⟨_, _, h, _⟩; exact h)
  rintro _ _ ⟨v3, rfl, _, rfl⟩
  refine .ap ?_
  rw [show (max (0 : Int) (min 8 ((8 + [3#8].length : Nat) : Int))).toNat = 8 from by decide]
  refine .nil (.tn (.seq (.region ?_)))
  refine .w (.move rfl) ?_
  refine .cb (f13_spec p v3 (flat [[1#8, 2#8], []] ++ (frameB [3#8]).take 8) hl3) body_13 ?_
  rintro v19 _ ⟨_, _, rfl⟩
  refine .ap ?_
  refine .cb (f11_spec v19 (flat [[1#8, 2#8], []] ++ (frameB [3#8]).take 8) hl3) body_11 ?_ (h0 := by rintro _ _ _ ⟨_, _, _, h, _⟩; exact h)
  rintro _ _ ⟨p2, v4, rfl, _, rfl⟩
  refine .ap ?_
  rw [hD3]
  refine .w (.assign rfl) ?_
  refine .nil (.tn (.seq (.seq (.region ?_))))
  refine .w (.move rfl) ?_
  refine .w (.as (v' := .bool false) (.bin rfl rfl (BinR.eql_p Tryd.underlying27)) rfl) ?_
  refine .nil (.tn ?_)
  refine .cf rfl ?_
  refine .skip (.tn (.seq (.region ?_)))
  refine .w (.move rfl) ?_
  refine .c (f14_spec p2 v4 (flat [[1#8, 2#8], []]) (by rw [flat_len]; decide)) body_14 ?_
  rw [hL0]
  refine .w (.assign rfl) ?_
  refine .nil (.tn (.seq (.region ?_)))
  refine .w (.move rfl) ?_
  refine .l1 Tryd.underlying22 info_5 (fun v26 => ?_)
  refine JO.know (φ := v26.oneCell' = true) (fun w hs => (by obtain ⟨A, c, rfl, _⟩ := row_rd (by decide) (Res.row_ok.1 (hs.hok _ (.head _))); rfl)) fun hv26 => ?_
  refine .l1 Tryd.underlying24 info_22 (fun v27 => ?_) (h1 := (by intro a ha; simp only [List.mem_cons, List.not_mem_nil, or_false] at ha; rcases ha with rfl | rfl; exact hv26; rfl))
  refine JO.freeze (v := v26) (by repeat (first | exact Pull.here _ _ | apply Pull.there)) (by decide) ?_
  refine JO.nilRd 1 ?_
  refine JO.bundle (pcRes [(v26, [1#8, 2#8]), (.slice none 0 0, [])]) (Subs.sub (by repeat (first | exact Subs.nil _ | apply Subs.cons | exact List.Mem.head _ | refine List.Mem.tail _ ?_))) ?_
  refine .c (f15_spec v14 v27 A [(v26, [1#8, 2#8]), (.slice none 0 0, [])]) body_15 ?_
  rw [decide_eq_true (show bytesP A = bytesP [(v26, [1#8, 2#8]), (.slice none 0 0, [])] by rw [hA, hL0]; rfl)]
  refine .w (.move rfl) ?_
  refine .gt (g := 29) rfl rfl rfl ?_
  refine .w (.move rfl) ?_
  refine .gt (g := 29) rfl rfl rfl ?_
  refine .w (.as (v' := .bool true) (.bin rfl rfl BinR.eql_i) rfl) ?_
  refine .w (.pick1 rfl rfl rfl) ?_
  refine .w (.assign rfl) ?_
  refine .nil (.tn (.ret ?_))
  exact .dn [] [] (res1 rfl (.tmp rfl)) ⟨rfl, rfl, rfl⟩
end Go.Proofs.YtganfkmkapogmaaDoor
