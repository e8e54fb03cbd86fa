/- Walk: the document's tally is made. -/
import Derived.Test.YtmbpngnamnoiaaaDoorF3
namespace Go.Proofs.YtmbpngnamnoiaaaDoor
open Go.RowKit
set_option maxRecDepth 100000
set_option linter.unusedVariables false
set_option linter.unusedSimpArgs false
set_option maxHeartbeats 4000000 in
theorem f23ok_spec (u : Value) (S : List W64) (h1 : 1 ≤ S.length) (h2 : S.length ≤ 40) (h3 : sumS S < 9223372036854775808) :
    Spec Tryd.prog 23 #[u] [Res.rd u S.length 1 (S.map u64)] []
      (fun r Γ' H' => ∃ p sv iv vv av, r = .tuple #[ptr p 0, it 0] ∧ Γ' = [] ∧ H' = [Res.cells p [sv, iv, vv, av] 56, Res.row sv S.length 34 1 (S.map u64), Res.row iv S.length 4 1 (isT S.length fun _ => none), Res.row vv S.length 31 32 (bks dgC (vvL S.length fun _ => none)), Res.row av S.length 4 1 (agT S.length fun _ => false)]) := by
  refine Spec.of_args Tryd.func23 rfl Tryd.ntmps23 (by simp) fun w => ?_
  refine JC.know (φ := S.length ≤ 9223372036854775807) (fun w hs => by obtain ⟨_, _, _, _, _, _, h⟩ := hs.rdForm (.head _); unfold maxLen at h; omega) fun hln => ?_
  have hn0 : newR S = 0 := by rw [newR_eq, if_neg (by omega), if_neg (by rw [totN_sum (by omega)]; omega)]
  refine .seq (.region ?_)
  refine .w (.assign rfl) ?_
  refine .w (.assign rfl) ?_
  refine .nil (.tn (.seq (.seq (.region ?_))))
  refine .w (.move rfl) ?_
  refine .w (.len Tryd.underlying22 rfl) ?_
  refine .w (.bin rfl rfl BinR.lss_i) ?_
  refine .w (.move rfl) ?_
  refine .join 4 13 (.bool (decide (S.length < 1 ∨ 40 < S.length))) ?_ ?_
  · refine .gn (g := 8) rfl (fun hg7 hg7' => ?_) (fun hg7 hg7' => ?_)
    · refine .gf (g := 9) rfl rfl hg7 (by decide) ?_
      refine .gf (g := 9) rfl rfl hg7 (by decide) ?_
      refine .gf (g := 9) rfl rfl hg7 (by decide) ?_
      refine .w (.pick1 rfl hg7 rfl) ?_
      refine .nil ?_
      refine .head () (by first | (refine ⟨by first | rfl | exact congrArg (fun b => some (Value.bool b)) (by first | exact (decide_eq_true (by omega)).symm | exact (decide_eq_false (by omega)).symm | exact decide_eq_decide.2 (by omega)) | (simp [*]; done) | (show some _ = some _; simp [*]; done), ?_⟩; repeat (first | exact trivial | refine ⟨rfl, ?_⟩))) (fun _ h => h) (Picks.perm (by repeat (first | exact Picks.nil _ | apply Picks.cons | exact Pull.here _ _ | apply Pull.there))) ?_
      trivial
    · refine .gt (g := 9) rfl rfl hg7 ?_
      refine .w (.move rfl) ?_
      refine .gt (g := 9) rfl rfl hg7 ?_
      refine .w (.len Tryd.underlying22 rfl) ?_
      refine .gt (g := 9) rfl rfl hg7 ?_
      refine .w (.bin rfl rfl BinR.gtr_i) ?_
      refine .w (.pick0 rfl hg7 rfl) ?_
      refine .nil ?_
      refine .head () (by first | (refine ⟨by first | rfl | exact congrArg (fun b => some (Value.bool b)) (by first | exact (decide_eq_true (by omega)).symm | exact (decide_eq_false (by omega)).symm | exact decide_eq_decide.2 (by omega)) | (simp [*]; done) | (show some _ = some _; simp [*]; done), ?_⟩; repeat (first | exact trivial | refine ⟨rfl, ?_⟩))) (fun _ h => h) (Picks.perm (by repeat (first | exact Picks.nil _ | apply Picks.cons | exact Pull.here _ _ | apply Pull.there))) ?_
      trivial
  · refine .nil (.tn ?_)
    refine .cn rfl (fun hc1 => ?_) (fun hc1 => ?_)
    · exact absurd hc1 (by omega)
    · refine .skip (.tn (.seq (.region ?_)))
      refine .w (.move rfl) ?_
      refine .c (f41_spec u S) body_41 ?_
      refine .w (.assign rfl) ?_
      refine .nil (.tn (.seq (.seq (.region ?_))))
      refine .w (.move rfl) ?_
      refine .w (.bin rfl rfl BinR.neq_i) ?_
      refine .nil (.tn ?_)
      refine .cn rfl (fun hc2 => ?_) (fun hc2 => ?_)
      · exact absurd hc2 (by rw [hn0]; simp)
      · refine .skip (.tn (.seq (.region ?_)))
        refine .w (.move rfl) ?_
        refine .w (.len Tryd.underlying22 rfl) ?_
        refine .w (.assign rfl) ?_
        refine .nil (.tn (.seq ?_))
        refine JC.draw (.one 1 (.one 3 (.one 5 (.one 7 (.alt 0 (.alt 2 (.alt 4 (.alt 6 (.one 8 (.one 9 (.one 10 (.one 11 (.one 12 .nil))))) (.alt 8 (.one 6 (.one 9 (.one 10 (.one 11 (.one 12 .nil))))) .nil)) (.alt 6 (.alt 4 (.one 8 (.one 9 (.one 10 (.one 11 (.one 12 .nil))))) (.alt 8 (.one 4 (.one 9 (.one 10 (.one 11 (.one 12 .nil))))) .nil)) (.alt 8 (.alt 4 (.one 6 (.one 9 (.one 10 (.one 11 (.one 12 .nil))))) (.alt 6 (.one 4 (.one 9 (.one 10 (.one 11 (.one 12 .nil))))) .nil)) .nil))) (.alt 4 (.alt 2 (.alt 6 (.one 8 (.one 9 (.one 10 (.one 11 (.one 12 .nil))))) (.alt 8 (.one 6 (.one 9 (.one 10 (.one 11 (.one 12 .nil))))) .nil)) (.alt 6 (.alt 2 (.one 8 (.one 9 (.one 10 (.one 11 (.one 12 .nil))))) (.alt 8 (.one 2 (.one 9 (.one 10 (.one 11 (.one 12 .nil))))) .nil)) (.alt 8 (.alt 2 (.one 6 (.one 9 (.one 10 (.one 11 (.one 12 .nil))))) (.alt 6 (.one 2 (.one 9 (.one 10 (.one 11 (.one 12 .nil))))) .nil)) .nil))) (.alt 6 (.alt 2 (.alt 4 (.one 8 (.one 9 (.one 10 (.one 11 (.one 12 .nil))))) (.alt 8 (.one 4 (.one 9 (.one 10 (.one 11 (.one 12 .nil))))) .nil)) (.alt 4 (.alt 2 (.one 8 (.one 9 (.one 10 (.one 11 (.one 12 .nil))))) (.alt 8 (.one 2 (.one 9 (.one 10 (.one 11 (.one 12 .nil))))) .nil)) (.alt 8 (.alt 2 (.one 4 (.one 9 (.one 10 (.one 11 (.one 12 .nil))))) (.alt 4 (.one 2 (.one 9 (.one 10 (.one 11 (.one 12 .nil))))) .nil)) .nil))) (.alt 8 (.alt 2 (.alt 4 (.one 6 (.one 9 (.one 10 (.one 11 (.one 12 .nil))))) (.alt 6 (.one 4 (.one 9 (.one 10 (.one 11 (.one 12 .nil))))) .nil)) (.alt 4 (.alt 2 (.one 6 (.one 9 (.one 10 (.one 11 (.one 12 .nil))))) (.alt 6 (.one 2 (.one 9 (.one 10 (.one 11 (.one 12 .nil))))) .nil)) (.alt 6 (.alt 2 (.one 4 (.one 9 (.one 10 (.one 11 (.one 12 .nil))))) (.alt 4 (.one 2 (.one 9 (.one 10 (.one 11 (.one 12 .nil))))) .nil)) .nil))) .nil)))) (.alt 4 (.alt 0 (.alt 2 (.alt 6 (.one 8 (.one 9 (.one 10 (.one 11 (.one 12 .nil))))) (.alt 8 (.one 6 (.one 9 (.one 10 (.one 11 (.one 12 .nil))))) .nil)) (.alt 6 (.alt 2 (.one 8 (.one 9 (.one 10 (.one 11 (.one 12 .nil))))) (.alt 8 (.one 2 (.one 9 (.one 10 (.one 11 (.one 12 .nil))))) .nil)) (.alt 8 (.alt 2 (.one 6 (.one 9 (.one 10 (.one 11 (.one 12 .nil))))) (.alt 6 (.one 2 (.one 9 (.one 10 (.one 11 (.one 12 .nil))))) .nil)) .nil))) (.alt 6 (.alt 0 (.alt 2 (.one 8 (.one 9 (.one 10 (.one 11 (.one 12 .nil))))) (.alt 8 (.one 2 (.one 9 (.one 10 (.one 11 (.one 12 .nil))))) .nil)) (.alt 8 (.one 0 (.one 2 (.one 9 (.one 10 (.one 11 (.one 12 .nil)))))) .nil)) (.alt 8 (.alt 0 (.alt 2 (.one 6 (.one 9 (.one 10 (.one 11 (.one 12 .nil))))) (.alt 6 (.one 2 (.one 9 (.one 10 (.one 11 (.one 12 .nil))))) .nil)) (.alt 6 (.one 0 (.one 2 (.one 9 (.one 10 (.one 11 (.one 12 .nil)))))) .nil)) .nil))) (.alt 6 (.alt 0 (.alt 2 (.alt 4 (.one 8 (.one 9 (.one 10 (.one 11 (.one 12 .nil))))) (.alt 8 (.one 4 (.one 9 (.one 10 (.one 11 (.one 12 .nil))))) .nil)) (.alt 4 (.alt 2 (.one 8 (.one 9 (.one 10 (.one 11 (.one 12 .nil))))) (.alt 8 (.one 2 (.one 9 (.one 10 (.one 11 (.one 12 .nil))))) .nil)) (.alt 8 (.alt 2 (.one 4 (.one 9 (.one 10 (.one 11 (.one 12 .nil))))) (.alt 4 (.one 2 (.one 9 (.one 10 (.one 11 (.one 12 .nil))))) .nil)) .nil))) (.alt 4 (.alt 0 (.alt 2 (.one 8 (.one 9 (.one 10 (.one 11 (.one 12 .nil))))) (.alt 8 (.one 2 (.one 9 (.one 10 (.one 11 (.one 12 .nil))))) .nil)) (.alt 8 (.one 0 (.one 2 (.one 9 (.one 10 (.one 11 (.one 12 .nil)))))) .nil)) (.alt 8 (.alt 0 (.alt 2 (.one 4 (.one 9 (.one 10 (.one 11 (.one 12 .nil))))) (.alt 4 (.one 2 (.one 9 (.one 10 (.one 11 (.one 12 .nil))))) .nil)) (.alt 4 (.one 0 (.one 2 (.one 9 (.one 10 (.one 11 (.one 12 .nil)))))) .nil)) .nil))) (.alt 8 (.alt 0 (.alt 2 (.alt 4 (.one 6 (.one 9 (.one 10 (.one 11 (.one 12 .nil))))) (.alt 6 (.one 4 (.one 9 (.one 10 (.one 11 (.one 12 .nil))))) .nil)) (.alt 4 (.alt 2 (.one 6 (.one 9 (.one 10 (.one 11 (.one 12 .nil))))) (.alt 6 (.one 2 (.one 9 (.one 10 (.one 11 (.one 12 .nil))))) .nil)) (.alt 6 (.alt 2 (.one 4 (.one 9 (.one 10 (.one 11 (.one 12 .nil))))) (.alt 4 (.one 2 (.one 9 (.one 10 (.one 11 (.one 12 .nil))))) .nil)) .nil))) (.alt 4 (.alt 0 (.alt 2 (.one 6 (.one 9 (.one 10 (.one 11 (.one 12 .nil))))) (.alt 6 (.one 2 (.one 9 (.one 10 (.one 11 (.one 12 .nil))))) .nil)) (.alt 6 (.one 0 (.one 2 (.one 9 (.one 10 (.one 11 (.one 12 .nil)))))) .nil)) (.alt 6 (.alt 0 (.alt 2 (.one 4 (.one 9 (.one 10 (.one 11 (.one 12 .nil))))) (.alt 4 (.one 2 (.one 9 (.one 10 (.one 11 (.one 12 .nil))))) .nil)) (.alt 4 (.one 0 (.one 2 (.one 9 (.one 10 (.one 11 (.one 12 .nil)))))) .nil)) .nil))) .nil)))))))) (fun i => ([0, 2, 4, 6, 8, 10] : List Nat).contains i) (fun i => ([0, 2, 4, 6, 8, 10] : List Nat).contains i) (fun i => ([1, 3, 5, 7, 9, 11, 12] : List Nat).contains i) mixed (by kernel_rfl) (by decide) (by kernel_rfl) ?_
        refine .uw rfl (.move rfl) ?_
        refine .uw rfl (.move rfl) ?_
        refine .uw rfl (.move rfl) ?_
        refine .uw rfl (.move rfl) ?_
        refine JR.alt rfl ?_ ?_
        · refine .mw rfl (Mv.buildEmpty Tryd.underlying22 sz_34) ?_
          rintro v21 _ _ ⟨rfl, rfl⟩
          refine kp ?_
          refine JR.alt rfl ?_ ?_
          · refine .mw rfl (.ap Tryd.underlying22 info_34) ?_
            rintro v23 _ _ ⟨rfl, rfl⟩
            refine kp ?_
            simp only [Nat.zero_add, List.nil_append]
            refine JR.know (φ := ∃ A c, v23 = .slice A S.length c) (fun w hs => hs.rowSl (by repeat (first | exact List.Mem.head _ | refine List.Mem.tail _ ?_))) fun ⟨A1, c1, hs1⟩ => ?_
            subst hs1
            refine JR.alt rfl ?_ ?_
            · refine .mw rfl (.mk1 Tryd.underlying53 info_4) ?_
              rintro v25 _ _ ⟨rfl, rfl⟩
              refine kp ?_
              rw [isT_nil]
              refine JR.know (φ := ∃ A c, v25 = .slice A S.length c) (fun w hs => hs.rowSl (by repeat (first | exact List.Mem.head _ | refine List.Mem.tail _ ?_))) fun ⟨A2, c2, hs2⟩ => ?_
              subst hs2
              refine JR.alt rfl ?_ ?_
              · refine .mw rfl (.mkN Tryd.underlying54 info_31 (zs := List.replicate 32 (Value.int .u8 0))) ?_
                rintro v27 _ _ ⟨rfl, rfl⟩
                refine kp ?_
                rw [vv_nil]
                refine JR.know (φ := ∃ A c, v27 = .slice A S.length c) (fun w hs => hs.rowSl (by repeat (first | exact List.Mem.head _ | refine List.Mem.tail _ ?_))) fun ⟨A3, c3, hs3⟩ => ?_
                subst hs3
                refine .mw rfl (.mk1 Tryd.underlying53 info_4) ?_
                rintro v29 _ _ ⟨rfl, rfl⟩
                refine kp ?_
                rw [agT_nil]
                refine JR.know (φ := ∃ A c, v29 = .slice A S.length c) (fun w hs => hs.rowSl (by repeat (first | exact List.Mem.head _ | refine List.Mem.tail _ ?_))) fun ⟨A4, c4, hs4⟩ => ?_
                subst hs4
                refine .uw rfl (.build bld_56 rfl rfl) ?_
                refine .mw rfl (Mv.box rfl) ?_
                rintro _ _ _ ⟨b31, rfl, rfl, rfl⟩
                refine kp ?_
                refine .uw rfl (.assign rfl) ?_
                refine .uw rfl (.assign rfl) ?_
                refine .nil (.tn (.ret ?_))
                exact .dn [] [Res.cells _ [_, _, _, _] 56, Res.row _ S.length 34 1 (S.map u64), Res.row _ S.length 4 1 (isT S.length fun _ => none), Res.row _ S.length 31 32 (bks dgC (vvL S.length fun _ => none)), Res.row _ S.length 4 1 (agT S.length fun _ => false)] (res2 rfl (.tmp rfl) (.tmp rfl)) ⟨_, _, _, _, _, rfl, rfl, rfl⟩
              refine JA.alt rfl ?_ ?_
              · refine .mw rfl (.mk1 Tryd.underlying53 info_4) ?_
                rintro v29 _ _ ⟨rfl, rfl⟩
                refine kp ?_
                rw [agT_nil]
                refine JR.know (φ := ∃ A c, v29 = .slice A S.length c) (fun w hs => hs.rowSl (by repeat (first | exact List.Mem.head _ | refine List.Mem.tail _ ?_))) fun ⟨A4, c4, hs4⟩ => ?_
                subst hs4
                refine .mw rfl (.mkN Tryd.underlying54 info_31 (zs := List.replicate 32 (Value.int .u8 0))) ?_
                rintro v27 _ _ ⟨rfl, rfl⟩
                refine kp ?_
                rw [vv_nil]
                refine JR.know (φ := ∃ A c, v27 = .slice A S.length c) (fun w hs => hs.rowSl (by repeat (first | exact List.Mem.head _ | refine List.Mem.tail _ ?_))) fun ⟨A3, c3, hs3⟩ => ?_
                subst hs3
                refine .uw rfl (.build bld_56 rfl rfl) ?_
                refine .mw rfl (Mv.box rfl) ?_
                rintro _ _ _ ⟨b31, rfl, rfl, rfl⟩
                refine kp ?_
                refine .uw rfl (.assign rfl) ?_
                refine .uw rfl (.assign rfl) ?_
                refine .nil (.tn (.ret ?_))
                exact .dn [] [Res.cells _ [_, _, _, _] 56, Res.row _ S.length 34 1 (S.map u64), Res.row _ S.length 4 1 (isT S.length fun _ => none), Res.row _ S.length 31 32 (bks dgC (vvL S.length fun _ => none)), Res.row _ S.length 4 1 (agT S.length fun _ => false)] (res2 rfl (.tmp rfl) (.tmp rfl)) ⟨_, _, _, _, _, rfl, rfl, rfl⟩
              exact JA.nil
            refine JA.alt rfl ?_ ?_
            · refine .mw rfl (.mkN Tryd.underlying54 info_31 (zs := List.replicate 32 (Value.int .u8 0))) ?_
              rintro v27 _ _ ⟨rfl, rfl⟩
              refine kp ?_
              rw [vv_nil]
              refine JR.know (φ := ∃ A c, v27 = .slice A S.length c) (fun w hs => hs.rowSl (by repeat (first | exact List.Mem.head _ | refine List.Mem.tail _ ?_))) fun ⟨A3, c3, hs3⟩ => ?_
              subst hs3
              refine JR.alt rfl ?_ ?_
              · refine .mw rfl (.mk1 Tryd.underlying53 info_4) ?_
                rintro v25 _ _ ⟨rfl, rfl⟩
                refine kp ?_
                rw [isT_nil]
                refine JR.know (φ := ∃ A c, v25 = .slice A S.length c) (fun w hs => hs.rowSl (by repeat (first | exact List.Mem.head _ | refine List.Mem.tail _ ?_))) fun ⟨A2, c2, hs2⟩ => ?_
                subst hs2
                refine .mw rfl (.mk1 Tryd.underlying53 info_4) ?_
                rintro v29 _ _ ⟨rfl, rfl⟩
                refine kp ?_
                rw [agT_nil]
                refine JR.know (φ := ∃ A c, v29 = .slice A S.length c) (fun w hs => hs.rowSl (by repeat (first | exact List.Mem.head _ | refine List.Mem.tail _ ?_))) fun ⟨A4, c4, hs4⟩ => ?_
                subst hs4
                refine .uw rfl (.build bld_56 rfl rfl) ?_
                refine .mw rfl (Mv.box rfl) ?_
                rintro _ _ _ ⟨b31, rfl, rfl, rfl⟩
                refine kp ?_
                refine .uw rfl (.assign rfl) ?_
                refine .uw rfl (.assign rfl) ?_
                refine .nil (.tn (.ret ?_))
                exact .dn [] [Res.cells _ [_, _, _, _] 56, Res.row _ S.length 34 1 (S.map u64), Res.row _ S.length 4 1 (isT S.length fun _ => none), Res.row _ S.length 31 32 (bks dgC (vvL S.length fun _ => none)), Res.row _ S.length 4 1 (agT S.length fun _ => false)] (res2 rfl (.tmp rfl) (.tmp rfl)) ⟨_, _, _, _, _, rfl, rfl, rfl⟩
              refine JA.alt rfl ?_ ?_
              · refine .mw rfl (.mk1 Tryd.underlying53 info_4) ?_
                rintro v29 _ _ ⟨rfl, rfl⟩
                refine kp ?_
                rw [agT_nil]
                refine JR.know (φ := ∃ A c, v29 = .slice A S.length c) (fun w hs => hs.rowSl (by repeat (first | exact List.Mem.head _ | refine List.Mem.tail _ ?_))) fun ⟨A4, c4, hs4⟩ => ?_
                subst hs4
                refine .mw rfl (.mk1 Tryd.underlying53 info_4) ?_
                rintro v25 _ _ ⟨rfl, rfl⟩
                refine kp ?_
                rw [isT_nil]
                refine JR.know (φ := ∃ A c, v25 = .slice A S.length c) (fun w hs => hs.rowSl (by repeat (first | exact List.Mem.head _ | refine List.Mem.tail _ ?_))) fun ⟨A2, c2, hs2⟩ => ?_
                subst hs2
                refine .uw rfl (.build bld_56 rfl rfl) ?_
                refine .mw rfl (Mv.box rfl) ?_
                rintro _ _ _ ⟨b31, rfl, rfl, rfl⟩
                refine kp ?_
                refine .uw rfl (.assign rfl) ?_
                refine .uw rfl (.assign rfl) ?_
                refine .nil (.tn (.ret ?_))
                exact .dn [] [Res.cells _ [_, _, _, _] 56, Res.row _ S.length 34 1 (S.map u64), Res.row _ S.length 4 1 (isT S.length fun _ => none), Res.row _ S.length 31 32 (bks dgC (vvL S.length fun _ => none)), Res.row _ S.length 4 1 (agT S.length fun _ => false)] (res2 rfl (.tmp rfl) (.tmp rfl)) ⟨_, _, _, _, _, rfl, rfl, rfl⟩
              exact JA.nil
            refine JA.alt rfl ?_ ?_
            · refine .mw rfl (.mk1 Tryd.underlying53 info_4) ?_
              rintro v29 _ _ ⟨rfl, rfl⟩
              refine kp ?_
              rw [agT_nil]
              refine JR.know (φ := ∃ A c, v29 = .slice A S.length c) (fun w hs => hs.rowSl (by repeat (first | exact List.Mem.head _ | refine List.Mem.tail _ ?_))) fun ⟨A4, c4, hs4⟩ => ?_
              subst hs4
              refine JR.alt rfl ?_ ?_
              · refine .mw rfl (.mk1 Tryd.underlying53 info_4) ?_
                rintro v25 _ _ ⟨rfl, rfl⟩
                refine kp ?_
                rw [isT_nil]
                refine JR.know (φ := ∃ A c, v25 = .slice A S.length c) (fun w hs => hs.rowSl (by repeat (first | exact List.Mem.head _ | refine List.Mem.tail _ ?_))) fun ⟨A2, c2, hs2⟩ => ?_
                subst hs2
                refine .mw rfl (.mkN Tryd.underlying54 info_31 (zs := List.replicate 32 (Value.int .u8 0))) ?_
                rintro v27 _ _ ⟨rfl, rfl⟩
                refine kp ?_
                rw [vv_nil]
                refine JR.know (φ := ∃ A c, v27 = .slice A S.length c) (fun w hs => hs.rowSl (by repeat (first | exact List.Mem.head _ | refine List.Mem.tail _ ?_))) fun ⟨A3, c3, hs3⟩ => ?_
                subst hs3
                refine .uw rfl (.build bld_56 rfl rfl) ?_
                refine .mw rfl (Mv.box rfl) ?_
                rintro _ _ _ ⟨b31, rfl, rfl, rfl⟩
                refine kp ?_
                refine .uw rfl (.assign rfl) ?_
                refine .uw rfl (.assign rfl) ?_
                refine .nil (.tn (.ret ?_))
                exact .dn [] [Res.cells _ [_, _, _, _] 56, Res.row _ S.length 34 1 (S.map u64), Res.row _ S.length 4 1 (isT S.length fun _ => none), Res.row _ S.length 31 32 (bks dgC (vvL S.length fun _ => none)), Res.row _ S.length 4 1 (agT S.length fun _ => false)] (res2 rfl (.tmp rfl) (.tmp rfl)) ⟨_, _, _, _, _, rfl, rfl, rfl⟩
              refine JA.alt rfl ?_ ?_
              · refine .mw rfl (.mkN Tryd.underlying54 info_31 (zs := List.replicate 32 (Value.int .u8 0))) ?_
                rintro v27 _ _ ⟨rfl, rfl⟩
                refine kp ?_
                rw [vv_nil]
                refine JR.know (φ := ∃ A c, v27 = .slice A S.length c) (fun w hs => hs.rowSl (by repeat (first | exact List.Mem.head _ | refine List.Mem.tail _ ?_))) fun ⟨A3, c3, hs3⟩ => ?_
                subst hs3
                refine .mw rfl (.mk1 Tryd.underlying53 info_4) ?_
                rintro v25 _ _ ⟨rfl, rfl⟩
                refine kp ?_
                rw [isT_nil]
                refine JR.know (φ := ∃ A c, v25 = .slice A S.length c) (fun w hs => hs.rowSl (by repeat (first | exact List.Mem.head _ | refine List.Mem.tail _ ?_))) fun ⟨A2, c2, hs2⟩ => ?_
                subst hs2
                refine .uw rfl (.build bld_56 rfl rfl) ?_
                refine .mw rfl (Mv.box rfl) ?_
                rintro _ _ _ ⟨b31, rfl, rfl, rfl⟩
                refine kp ?_
                refine .uw rfl (.assign rfl) ?_
                refine .uw rfl (.assign rfl) ?_
                refine .nil (.tn (.ret ?_))
                exact .dn [] [Res.cells _ [_, _, _, _] 56, Res.row _ S.length 34 1 (S.map u64), Res.row _ S.length 4 1 (isT S.length fun _ => none), Res.row _ S.length 31 32 (bks dgC (vvL S.length fun _ => none)), Res.row _ S.length 4 1 (agT S.length fun _ => false)] (res2 rfl (.tmp rfl) (.tmp rfl)) ⟨_, _, _, _, _, rfl, rfl, rfl⟩
              exact JA.nil
            exact JA.nil
          refine JA.alt rfl ?_ ?_
          · refine .mw rfl (.mk1 Tryd.underlying53 info_4) ?_
            rintro v25 _ _ ⟨rfl, rfl⟩
            refine kp ?_
            rw [isT_nil]
            refine JR.know (φ := ∃ A c, v25 = .slice A S.length c) (fun w hs => hs.rowSl (by repeat (first | exact List.Mem.head _ | refine List.Mem.tail _ ?_))) fun ⟨A2, c2, hs2⟩ => ?_
            subst hs2
            refine JR.alt rfl ?_ ?_
            · refine .mw rfl (.ap Tryd.underlying22 info_34) ?_
              rintro v23 _ _ ⟨rfl, rfl⟩
              refine kp ?_
              simp only [Nat.zero_add, List.nil_append]
              refine JR.know (φ := ∃ A c, v23 = .slice A S.length c) (fun w hs => hs.rowSl (by repeat (first | exact List.Mem.head _ | refine List.Mem.tail _ ?_))) fun ⟨A1, c1, hs1⟩ => ?_
              subst hs1
              refine JR.alt rfl ?_ ?_
              · refine .mw rfl (.mkN Tryd.underlying54 info_31 (zs := List.replicate 32 (Value.int .u8 0))) ?_
                rintro v27 _ _ ⟨rfl, rfl⟩
                refine kp ?_
                rw [vv_nil]
                refine JR.know (φ := ∃ A c, v27 = .slice A S.length c) (fun w hs => hs.rowSl (by repeat (first | exact List.Mem.head _ | refine List.Mem.tail _ ?_))) fun ⟨A3, c3, hs3⟩ => ?_
                subst hs3
                refine .mw rfl (.mk1 Tryd.underlying53 info_4) ?_
                rintro v29 _ _ ⟨rfl, rfl⟩
                refine kp ?_
                rw [agT_nil]
                refine JR.know (φ := ∃ A c, v29 = .slice A S.length c) (fun w hs => hs.rowSl (by repeat (first | exact List.Mem.head _ | refine List.Mem.tail _ ?_))) fun ⟨A4, c4, hs4⟩ => ?_
                subst hs4
                refine .uw rfl (.build bld_56 rfl rfl) ?_
                refine .mw rfl (Mv.box rfl) ?_
                rintro _ _ _ ⟨b31, rfl, rfl, rfl⟩
                refine kp ?_
                refine .uw rfl (.assign rfl) ?_
                refine .uw rfl (.assign rfl) ?_
                refine .nil (.tn (.ret ?_))
                exact .dn [] [Res.cells _ [_, _, _, _] 56, Res.row _ S.length 34 1 (S.map u64), Res.row _ S.length 4 1 (isT S.length fun _ => none), Res.row _ S.length 31 32 (bks dgC (vvL S.length fun _ => none)), Res.row _ S.length 4 1 (agT S.length fun _ => false)] (res2 rfl (.tmp rfl) (.tmp rfl)) ⟨_, _, _, _, _, rfl, rfl, rfl⟩
              refine JA.alt rfl ?_ ?_
              · refine .mw rfl (.mk1 Tryd.underlying53 info_4) ?_
                rintro v29 _ _ ⟨rfl, rfl⟩
                refine kp ?_
                rw [agT_nil]
                refine JR.know (φ := ∃ A c, v29 = .slice A S.length c) (fun w hs => hs.rowSl (by repeat (first | exact List.Mem.head _ | refine List.Mem.tail _ ?_))) fun ⟨A4, c4, hs4⟩ => ?_
                subst hs4
                refine .mw rfl (.mkN Tryd.underlying54 info_31 (zs := List.replicate 32 (Value.int .u8 0))) ?_
                rintro v27 _ _ ⟨rfl, rfl⟩
                refine kp ?_
                rw [vv_nil]
                refine JR.know (φ := ∃ A c, v27 = .slice A S.length c) (fun w hs => hs.rowSl (by repeat (first | exact List.Mem.head _ | refine List.Mem.tail _ ?_))) fun ⟨A3, c3, hs3⟩ => ?_
                subst hs3
                refine .uw rfl (.build bld_56 rfl rfl) ?_
                refine .mw rfl (Mv.box rfl) ?_
                rintro _ _ _ ⟨b31, rfl, rfl, rfl⟩
                refine kp ?_
                refine .uw rfl (.assign rfl) ?_
                refine .uw rfl (.assign rfl) ?_
                refine .nil (.tn (.ret ?_))
                exact .dn [] [Res.cells _ [_, _, _, _] 56, Res.row _ S.length 34 1 (S.map u64), Res.row _ S.length 4 1 (isT S.length fun _ => none), Res.row _ S.length 31 32 (bks dgC (vvL S.length fun _ => none)), Res.row _ S.length 4 1 (agT S.length fun _ => false)] (res2 rfl (.tmp rfl) (.tmp rfl)) ⟨_, _, _, _, _, rfl, rfl, rfl⟩
              exact JA.nil
            refine JA.alt rfl ?_ ?_
            · refine .mw rfl (.mkN Tryd.underlying54 info_31 (zs := List.replicate 32 (Value.int .u8 0))) ?_
              rintro v27 _ _ ⟨rfl, rfl⟩
              refine kp ?_
              rw [vv_nil]
              refine JR.know (φ := ∃ A c, v27 = .slice A S.length c) (fun w hs => hs.rowSl (by repeat (first | exact List.Mem.head _ | refine List.Mem.tail _ ?_))) fun ⟨A3, c3, hs3⟩ => ?_
              subst hs3
              refine JR.alt rfl ?_ ?_
              · refine .mw rfl (.ap Tryd.underlying22 info_34) ?_
                rintro v23 _ _ ⟨rfl, rfl⟩
                refine kp ?_
                simp only [Nat.zero_add, List.nil_append]
                refine JR.know (φ := ∃ A c, v23 = .slice A S.length c) (fun w hs => hs.rowSl (by repeat (first | exact List.Mem.head _ | refine List.Mem.tail _ ?_))) fun ⟨A1, c1, hs1⟩ => ?_
                subst hs1
                refine .mw rfl (.mk1 Tryd.underlying53 info_4) ?_
                rintro v29 _ _ ⟨rfl, rfl⟩
                refine kp ?_
                rw [agT_nil]
                refine JR.know (φ := ∃ A c, v29 = .slice A S.length c) (fun w hs => hs.rowSl (by repeat (first | exact List.Mem.head _ | refine List.Mem.tail _ ?_))) fun ⟨A4, c4, hs4⟩ => ?_
                subst hs4
                refine .uw rfl (.build bld_56 rfl rfl) ?_
                refine .mw rfl (Mv.box rfl) ?_
                rintro _ _ _ ⟨b31, rfl, rfl, rfl⟩
                refine kp ?_
                refine .uw rfl (.assign rfl) ?_
                refine .uw rfl (.assign rfl) ?_
                refine .nil (.tn (.ret ?_))
                exact .dn [] [Res.cells _ [_, _, _, _] 56, Res.row _ S.length 34 1 (S.map u64), Res.row _ S.length 4 1 (isT S.length fun _ => none), Res.row _ S.length 31 32 (bks dgC (vvL S.length fun _ => none)), Res.row _ S.length 4 1 (agT S.length fun _ => false)] (res2 rfl (.tmp rfl) (.tmp rfl)) ⟨_, _, _, _, _, rfl, rfl, rfl⟩
              refine JA.alt rfl ?_ ?_
              · refine .mw rfl (.mk1 Tryd.underlying53 info_4) ?_
                rintro v29 _ _ ⟨rfl, rfl⟩
                refine kp ?_
                rw [agT_nil]
                refine JR.know (φ := ∃ A c, v29 = .slice A S.length c) (fun w hs => hs.rowSl (by repeat (first | exact List.Mem.head _ | refine List.Mem.tail _ ?_))) fun ⟨A4, c4, hs4⟩ => ?_
                subst hs4
                refine .mw rfl (.ap Tryd.underlying22 info_34) ?_
                rintro v23 _ _ ⟨rfl, rfl⟩
                refine kp ?_
                simp only [Nat.zero_add, List.nil_append]
                refine JR.know (φ := ∃ A c, v23 = .slice A S.length c) (fun w hs => hs.rowSl (by repeat (first | exact List.Mem.head _ | refine List.Mem.tail _ ?_))) fun ⟨A1, c1, hs1⟩ => ?_
                subst hs1
                refine .uw rfl (.build bld_56 rfl rfl) ?_
                refine .mw rfl (Mv.box rfl) ?_
                rintro _ _ _ ⟨b31, rfl, rfl, rfl⟩
                refine kp ?_
                refine .uw rfl (.assign rfl) ?_
                refine .uw rfl (.assign rfl) ?_
                refine .nil (.tn (.ret ?_))
                exact .dn [] [Res.cells _ [_, _, _, _] 56, Res.row _ S.length 34 1 (S.map u64), Res.row _ S.length 4 1 (isT S.length fun _ => none), Res.row _ S.length 31 32 (bks dgC (vvL S.length fun _ => none)), Res.row _ S.length 4 1 (agT S.length fun _ => false)] (res2 rfl (.tmp rfl) (.tmp rfl)) ⟨_, _, _, _, _, rfl, rfl, rfl⟩
              exact JA.nil
            refine JA.alt rfl ?_ ?_
            · refine .mw rfl (.mk1 Tryd.underlying53 info_4) ?_
              rintro v29 _ _ ⟨rfl, rfl⟩
              refine kp ?_
              rw [agT_nil]
              refine JR.know (φ := ∃ A c, v29 = .slice A S.length c) (fun w hs => hs.rowSl (by repeat (first | exact List.Mem.head _ | refine List.Mem.tail _ ?_))) fun ⟨A4, c4, hs4⟩ => ?_
              subst hs4
              refine JR.alt rfl ?_ ?_
              · refine .mw rfl (.ap Tryd.underlying22 info_34) ?_
                rintro v23 _ _ ⟨rfl, rfl⟩
                refine kp ?_
                simp only [Nat.zero_add, List.nil_append]
                refine JR.know (φ := ∃ A c, v23 = .slice A S.length c) (fun w hs => hs.rowSl (by repeat (first | exact List.Mem.head _ | refine List.Mem.tail _ ?_))) fun ⟨A1, c1, hs1⟩ => ?_
                subst hs1
                refine .mw rfl (.mkN Tryd.underlying54 info_31 (zs := List.replicate 32 (Value.int .u8 0))) ?_
                rintro v27 _ _ ⟨rfl, rfl⟩
                refine kp ?_
                rw [vv_nil]
                refine JR.know (φ := ∃ A c, v27 = .slice A S.length c) (fun w hs => hs.rowSl (by repeat (first | exact List.Mem.head _ | refine List.Mem.tail _ ?_))) fun ⟨A3, c3, hs3⟩ => ?_
                subst hs3
                refine .uw rfl (.build bld_56 rfl rfl) ?_
                refine .mw rfl (Mv.box rfl) ?_
                rintro _ _ _ ⟨b31, rfl, rfl, rfl⟩
                refine kp ?_
                refine .uw rfl (.assign rfl) ?_
                refine .uw rfl (.assign rfl) ?_
                refine .nil (.tn (.ret ?_))
                exact .dn [] [Res.cells _ [_, _, _, _] 56, Res.row _ S.length 34 1 (S.map u64), Res.row _ S.length 4 1 (isT S.length fun _ => none), Res.row _ S.length 31 32 (bks dgC (vvL S.length fun _ => none)), Res.row _ S.length 4 1 (agT S.length fun _ => false)] (res2 rfl (.tmp rfl) (.tmp rfl)) ⟨_, _, _, _, _, rfl, rfl, rfl⟩
              refine JA.alt rfl ?_ ?_
              · refine .mw rfl (.mkN Tryd.underlying54 info_31 (zs := List.replicate 32 (Value.int .u8 0))) ?_
                rintro v27 _ _ ⟨rfl, rfl⟩
                refine kp ?_
                rw [vv_nil]
                refine JR.know (φ := ∃ A c, v27 = .slice A S.length c) (fun w hs => hs.rowSl (by repeat (first | exact List.Mem.head _ | refine List.Mem.tail _ ?_))) fun ⟨A3, c3, hs3⟩ => ?_
                subst hs3
                refine .mw rfl (.ap Tryd.underlying22 info_34) ?_
                rintro v23 _ _ ⟨rfl, rfl⟩
                refine kp ?_
                simp only [Nat.zero_add, List.nil_append]
                refine JR.know (φ := ∃ A c, v23 = .slice A S.length c) (fun w hs => hs.rowSl (by repeat (first | exact List.Mem.head _ | refine List.Mem.tail _ ?_))) fun ⟨A1, c1, hs1⟩ => ?_
                subst hs1
                refine .uw rfl (.build bld_56 rfl rfl) ?_
                refine .mw rfl (Mv.box rfl) ?_
                rintro _ _ _ ⟨b31, rfl, rfl, rfl⟩
                refine kp ?_
                refine .uw rfl (.assign rfl) ?_
                refine .uw rfl (.assign rfl) ?_
                refine .nil (.tn (.ret ?_))
                exact .dn [] [Res.cells _ [_, _, _, _] 56, Res.row _ S.length 34 1 (S.map u64), Res.row _ S.length 4 1 (isT S.length fun _ => none), Res.row _ S.length 31 32 (bks dgC (vvL S.length fun _ => none)), Res.row _ S.length 4 1 (agT S.length fun _ => false)] (res2 rfl (.tmp rfl) (.tmp rfl)) ⟨_, _, _, _, _, rfl, rfl, rfl⟩
              exact JA.nil
            exact JA.nil
          refine JA.alt rfl ?_ ?_
          · refine .mw rfl (.mkN Tryd.underlying54 info_31 (zs := List.replicate 32 (Value.int .u8 0))) ?_
            rintro v27 _ _ ⟨rfl, rfl⟩
            refine kp ?_
            rw [vv_nil]
            refine JR.know (φ := ∃ A c, v27 = .slice A S.length c) (fun w hs => hs.rowSl (by repeat (first | exact List.Mem.head _ | refine List.Mem.tail _ ?_))) fun ⟨A3, c3, hs3⟩ => ?_
            subst hs3
            refine JR.alt rfl ?_ ?_
            · refine .mw rfl (.ap Tryd.underlying22 info_34) ?_
              rintro v23 _ _ ⟨rfl, rfl⟩
              refine kp ?_
              simp only [Nat.zero_add, List.nil_append]
              refine JR.know (φ := ∃ A c, v23 = .slice A S.length c) (fun w hs => hs.rowSl (by repeat (first | exact List.Mem.head _ | refine List.Mem.tail _ ?_))) fun ⟨A1, c1, hs1⟩ => ?_
              subst hs1
              refine JR.alt rfl ?_ ?_
              · refine .mw rfl (.mk1 Tryd.underlying53 info_4) ?_
                rintro v25 _ _ ⟨rfl, rfl⟩
                refine kp ?_
                rw [isT_nil]
                refine JR.know (φ := ∃ A c, v25 = .slice A S.length c) (fun w hs => hs.rowSl (by repeat (first | exact List.Mem.head _ | refine List.Mem.tail _ ?_))) fun ⟨A2, c2, hs2⟩ => ?_
                subst hs2
                refine .mw rfl (.mk1 Tryd.underlying53 info_4) ?_
                rintro v29 _ _ ⟨rfl, rfl⟩
                refine kp ?_
                rw [agT_nil]
                refine JR.know (φ := ∃ A c, v29 = .slice A S.length c) (fun w hs => hs.rowSl (by repeat (first | exact List.Mem.head _ | refine List.Mem.tail _ ?_))) fun ⟨A4, c4, hs4⟩ => ?_
                subst hs4
                refine .uw rfl (.build bld_56 rfl rfl) ?_
                refine .mw rfl (Mv.box rfl) ?_
                rintro _ _ _ ⟨b31, rfl, rfl, rfl⟩
                refine kp ?_
                refine .uw rfl (.assign rfl) ?_
                refine .uw rfl (.assign rfl) ?_
                refine .nil (.tn (.ret ?_))
                exact .dn [] [Res.cells _ [_, _, _, _] 56, Res.row _ S.length 34 1 (S.map u64), Res.row _ S.length 4 1 (isT S.length fun _ => none), Res.row _ S.length 31 32 (bks dgC (vvL S.length fun _ => none)), Res.row _ S.length 4 1 (agT S.length fun _ => false)] (res2 rfl (.tmp rfl) (.tmp rfl)) ⟨_, _, _, _, _, rfl, rfl, rfl⟩
              refine JA.alt rfl ?_ ?_
              · refine .mw rfl (.mk1 Tryd.underlying53 info_4) ?_
                rintro v29 _ _ ⟨rfl, rfl⟩
                refine kp ?_
                rw [agT_nil]
                refine JR.know (φ := ∃ A c, v29 = .slice A S.length c) (fun w hs => hs.rowSl (by repeat (first | exact List.Mem.head _ | refine List.Mem.tail _ ?_))) fun ⟨A4, c4, hs4⟩ => ?_
                subst hs4
                refine .mw rfl (.mk1 Tryd.underlying53 info_4) ?_
                rintro v25 _ _ ⟨rfl, rfl⟩
                refine kp ?_
                rw [isT_nil]
                refine JR.know (φ := ∃ A c, v25 = .slice A S.length c) (fun w hs => hs.rowSl (by repeat (first | exact List.Mem.head _ | refine List.Mem.tail _ ?_))) fun ⟨A2, c2, hs2⟩ => ?_
                subst hs2
                refine .uw rfl (.build bld_56 rfl rfl) ?_
                refine .mw rfl (Mv.box rfl) ?_
                rintro _ _ _ ⟨b31, rfl, rfl, rfl⟩
                refine kp ?_
                refine .uw rfl (.assign rfl) ?_
                refine .uw rfl (.assign rfl) ?_
                refine .nil (.tn (.ret ?_))
                exact .dn [] [Res.cells _ [_, _, _, _] 56, Res.row _ S.length 34 1 (S.map u64), Res.row _ S.length 4 1 (isT S.length fun _ => none), Res.row _ S.length 31 32 (bks dgC (vvL S.length fun _ => none)), Res.row _ S.length 4 1 (agT S.length fun _ => false)] (res2 rfl (.tmp rfl) (.tmp rfl)) ⟨_, _, _, _, _, rfl, rfl, rfl⟩
              exact JA.nil
            refine JA.alt rfl ?_ ?_
            · refine .mw rfl (.mk1 Tryd.underlying53 info_4) ?_
              rintro v25 _ _ ⟨rfl, rfl⟩
              refine kp ?_
              rw [isT_nil]
              refine JR.know (φ := ∃ A c, v25 = .slice A S.length c) (fun w hs => hs.rowSl (by repeat (first | exact List.Mem.head _ | refine List.Mem.tail _ ?_))) fun ⟨A2, c2, hs2⟩ => ?_
              subst hs2
              refine JR.alt rfl ?_ ?_
              · refine .mw rfl (.ap Tryd.underlying22 info_34) ?_
                rintro v23 _ _ ⟨rfl, rfl⟩
                refine kp ?_
                simp only [Nat.zero_add, List.nil_append]
                refine JR.know (φ := ∃ A c, v23 = .slice A S.length c) (fun w hs => hs.rowSl (by repeat (first | exact List.Mem.head _ | refine List.Mem.tail _ ?_))) fun ⟨A1, c1, hs1⟩ => ?_
                subst hs1
                refine .mw rfl (.mk1 Tryd.underlying53 info_4) ?_
                rintro v29 _ _ ⟨rfl, rfl⟩
                refine kp ?_
                rw [agT_nil]
                refine JR.know (φ := ∃ A c, v29 = .slice A S.length c) (fun w hs => hs.rowSl (by repeat (first | exact List.Mem.head _ | refine List.Mem.tail _ ?_))) fun ⟨A4, c4, hs4⟩ => ?_
                subst hs4
                refine .uw rfl (.build bld_56 rfl rfl) ?_
                refine .mw rfl (Mv.box rfl) ?_
                rintro _ _ _ ⟨b31, rfl, rfl, rfl⟩
                refine kp ?_
                refine .uw rfl (.assign rfl) ?_
                refine .uw rfl (.assign rfl) ?_
                refine .nil (.tn (.ret ?_))
                exact .dn [] [Res.cells _ [_, _, _, _] 56, Res.row _ S.length 34 1 (S.map u64), Res.row _ S.length 4 1 (isT S.length fun _ => none), Res.row _ S.length 31 32 (bks dgC (vvL S.length fun _ => none)), Res.row _ S.length 4 1 (agT S.length fun _ => false)] (res2 rfl (.tmp rfl) (.tmp rfl)) ⟨_, _, _, _, _, rfl, rfl, rfl⟩
              refine JA.alt rfl ?_ ?_
              · refine .mw rfl (.mk1 Tryd.underlying53 info_4) ?_
                rintro v29 _ _ ⟨rfl, rfl⟩
                refine kp ?_
                rw [agT_nil]
                refine JR.know (φ := ∃ A c, v29 = .slice A S.length c) (fun w hs => hs.rowSl (by repeat (first | exact List.Mem.head _ | refine List.Mem.tail _ ?_))) fun ⟨A4, c4, hs4⟩ => ?_
                subst hs4
                refine .mw rfl (.ap Tryd.underlying22 info_34) ?_
                rintro v23 _ _ ⟨rfl, rfl⟩
                refine kp ?_
                simp only [Nat.zero_add, List.nil_append]
                refine JR.know (φ := ∃ A c, v23 = .slice A S.length c) (fun w hs => hs.rowSl (by repeat (first | exact List.Mem.head _ | refine List.Mem.tail _ ?_))) fun ⟨A1, c1, hs1⟩ => ?_
                subst hs1
                refine .uw rfl (.build bld_56 rfl rfl) ?_
                refine .mw rfl (Mv.box rfl) ?_
                rintro _ _ _ ⟨b31, rfl, rfl, rfl⟩
                refine kp ?_
                refine .uw rfl (.assign rfl) ?_
                refine .uw rfl (.assign rfl) ?_
                refine .nil (.tn (.ret ?_))
                exact .dn [] [Res.cells _ [_, _, _, _] 56, Res.row _ S.length 34 1 (S.map u64), Res.row _ S.length 4 1 (isT S.length fun _ => none), Res.row _ S.length 31 32 (bks dgC (vvL S.length fun _ => none)), Res.row _ S.length 4 1 (agT S.length fun _ => false)] (res2 rfl (.tmp rfl) (.tmp rfl)) ⟨_, _, _, _, _, rfl, rfl, rfl⟩
              exact JA.nil
            refine JA.alt rfl ?_ ?_
            · refine .mw rfl (.mk1 Tryd.underlying53 info_4) ?_
              rintro v29 _ _ ⟨rfl, rfl⟩
              refine kp ?_
              rw [agT_nil]
              refine JR.know (φ := ∃ A c, v29 = .slice A S.length c) (fun w hs => hs.rowSl (by repeat (first | exact List.Mem.head _ | refine List.Mem.tail _ ?_))) fun ⟨A4, c4, hs4⟩ => ?_
              subst hs4
              refine JR.alt rfl ?_ ?_
              · refine .mw rfl (.ap Tryd.underlying22 info_34) ?_
                rintro v23 _ _ ⟨rfl, rfl⟩
                refine kp ?_
                simp only [Nat.zero_add, List.nil_append]
                refine JR.know (φ := ∃ A c, v23 = .slice A S.length c) (fun w hs => hs.rowSl (by repeat (first | exact List.Mem.head _ | refine List.Mem.tail _ ?_))) fun ⟨A1, c1, hs1⟩ => ?_
                subst hs1
                refine .mw rfl (.mk1 Tryd.underlying53 info_4) ?_
                rintro v25 _ _ ⟨rfl, rfl⟩
                refine kp ?_
                rw [isT_nil]
                refine JR.know (φ := ∃ A c, v25 = .slice A S.length c) (fun w hs => hs.rowSl (by repeat (first | exact List.Mem.head _ | refine List.Mem.tail _ ?_))) fun ⟨A2, c2, hs2⟩ => ?_
                subst hs2
                refine .uw rfl (.build bld_56 rfl rfl) ?_
                refine .mw rfl (Mv.box rfl) ?_
                rintro _ _ _ ⟨b31, rfl, rfl, rfl⟩
                refine kp ?_
                refine .uw rfl (.assign rfl) ?_
                refine .uw rfl (.assign rfl) ?_
                refine .nil (.tn (.ret ?_))
                exact .dn [] [Res.cells _ [_, _, _, _] 56, Res.row _ S.length 34 1 (S.map u64), Res.row _ S.length 4 1 (isT S.length fun _ => none), Res.row _ S.length 31 32 (bks dgC (vvL S.length fun _ => none)), Res.row _ S.length 4 1 (agT S.length fun _ => false)] (res2 rfl (.tmp rfl) (.tmp rfl)) ⟨_, _, _, _, _, rfl, rfl, rfl⟩
              refine JA.alt rfl ?_ ?_
              · refine .mw rfl (.mk1 Tryd.underlying53 info_4) ?_
                rintro v25 _ _ ⟨rfl, rfl⟩
                refine kp ?_
                rw [isT_nil]
                refine JR.know (φ := ∃ A c, v25 = .slice A S.length c) (fun w hs => hs.rowSl (by repeat (first | exact List.Mem.head _ | refine List.Mem.tail _ ?_))) fun ⟨A2, c2, hs2⟩ => ?_
                subst hs2
                refine .mw rfl (.ap Tryd.underlying22 info_34) ?_
                rintro v23 _ _ ⟨rfl, rfl⟩
                refine kp ?_
                simp only [Nat.zero_add, List.nil_append]
                refine JR.know (φ := ∃ A c, v23 = .slice A S.length c) (fun w hs => hs.rowSl (by repeat (first | exact List.Mem.head _ | refine List.Mem.tail _ ?_))) fun ⟨A1, c1, hs1⟩ => ?_
                subst hs1
                refine .uw rfl (.build bld_56 rfl rfl) ?_
                refine .mw rfl (Mv.box rfl) ?_
                rintro _ _ _ ⟨b31, rfl, rfl, rfl⟩
                refine kp ?_
                refine .uw rfl (.assign rfl) ?_
                refine .uw rfl (.assign rfl) ?_
                refine .nil (.tn (.ret ?_))
                exact .dn [] [Res.cells _ [_, _, _, _] 56, Res.row _ S.length 34 1 (S.map u64), Res.row _ S.length 4 1 (isT S.length fun _ => none), Res.row _ S.length 31 32 (bks dgC (vvL S.length fun _ => none)), Res.row _ S.length 4 1 (agT S.length fun _ => false)] (res2 rfl (.tmp rfl) (.tmp rfl)) ⟨_, _, _, _, _, rfl, rfl, rfl⟩
              exact JA.nil
            exact JA.nil
          refine JA.alt rfl ?_ ?_
          · refine .mw rfl (.mk1 Tryd.underlying53 info_4) ?_
            rintro v29 _ _ ⟨rfl, rfl⟩
            refine kp ?_
            rw [agT_nil]
            refine JR.know (φ := ∃ A c, v29 = .slice A S.length c) (fun w hs => hs.rowSl (by repeat (first | exact List.Mem.head _ | refine List.Mem.tail _ ?_))) fun ⟨A4, c4, hs4⟩ => ?_
            subst hs4
            refine JR.alt rfl ?_ ?_
            · refine .mw rfl (.ap Tryd.underlying22 info_34) ?_
              rintro v23 _ _ ⟨rfl, rfl⟩
              refine kp ?_
              simp only [Nat.zero_add, List.nil_append]
              refine JR.know (φ := ∃ A c, v23 = .slice A S.length c) (fun w hs => hs.rowSl (by repeat (first | exact List.Mem.head _ | refine List.Mem.tail _ ?_))) fun ⟨A1, c1, hs1⟩ => ?_
              subst hs1
              refine JR.alt rfl ?_ ?_
              · refine .mw rfl (.mk1 Tryd.underlying53 info_4) ?_
                rintro v25 _ _ ⟨rfl, rfl⟩
                refine kp ?_
                rw [isT_nil]
                refine JR.know (φ := ∃ A c, v25 = .slice A S.length c) (fun w hs => hs.rowSl (by repeat (first | exact List.Mem.head _ | refine List.Mem.tail _ ?_))) fun ⟨A2, c2, hs2⟩ => ?_
                subst hs2
                refine .mw rfl (.mkN Tryd.underlying54 info_31 (zs := List.replicate 32 (Value.int .u8 0))) ?_
                rintro v27 _ _ ⟨rfl, rfl⟩
                refine kp ?_
                rw [vv_nil]
                refine JR.know (φ := ∃ A c, v27 = .slice A S.length c) (fun w hs => hs.rowSl (by repeat (first | exact List.Mem.head _ | refine List.Mem.tail _ ?_))) fun ⟨A3, c3, hs3⟩ => ?_
                subst hs3
                refine .uw rfl (.build bld_56 rfl rfl) ?_
                refine .mw rfl (Mv.box rfl) ?_
                rintro _ _ _ ⟨b31, rfl, rfl, rfl⟩
                refine kp ?_
                refine .uw rfl (.assign rfl) ?_
                refine .uw rfl (.assign rfl) ?_
                refine .nil (.tn (.ret ?_))
                exact .dn [] [Res.cells _ [_, _, _, _] 56, Res.row _ S.length 34 1 (S.map u64), Res.row _ S.length 4 1 (isT S.length fun _ => none), Res.row _ S.length 31 32 (bks dgC (vvL S.length fun _ => none)), Res.row _ S.length 4 1 (agT S.length fun _ => false)] (res2 rfl (.tmp rfl) (.tmp rfl)) ⟨_, _, _, _, _, rfl, rfl, rfl⟩
              refine JA.alt rfl ?_ ?_
              · refine .mw rfl (.mkN Tryd.underlying54 info_31 (zs := List.replicate 32 (Value.int .u8 0))) ?_
                rintro v27 _ _ ⟨rfl, rfl⟩
                refine kp ?_
                rw [vv_nil]
                refine JR.know (φ := ∃ A c, v27 = .slice A S.length c) (fun w hs => hs.rowSl (by repeat (first | exact List.Mem.head _ | refine List.Mem.tail _ ?_))) fun ⟨A3, c3, hs3⟩ => ?_
                subst hs3
                refine .mw rfl (.mk1 Tryd.underlying53 info_4) ?_
                rintro v25 _ _ ⟨rfl, rfl⟩
                refine kp ?_
                rw [isT_nil]
                refine JR.know (φ := ∃ A c, v25 = .slice A S.length c) (fun w hs => hs.rowSl (by repeat (first | exact List.Mem.head _ | refine List.Mem.tail _ ?_))) fun ⟨A2, c2, hs2⟩ => ?_
                subst hs2
                refine .uw rfl (.build bld_56 rfl rfl) ?_
                refine .mw rfl (Mv.box rfl) ?_
                rintro _ _ _ ⟨b31, rfl, rfl, rfl⟩
                refine kp ?_
                refine .uw rfl (.assign rfl) ?_
                refine .uw rfl (.assign rfl) ?_
                refine .nil (.tn (.ret ?_))
                exact .dn [] [Res.cells _ [_, _, _, _] 56, Res.row _ S.length 34 1 (S.map u64), Res.row _ S.length 4 1 (isT S.length fun _ => none), Res.row _ S.length 31 32 (bks dgC (vvL S.length fun _ => none)), Res.row _ S.length 4 1 (agT S.length fun _ => false)] (res2 rfl (.tmp rfl) (.tmp rfl)) ⟨_, _, _, _, _, rfl, rfl, rfl⟩
              exact JA.nil
            refine JA.alt rfl ?_ ?_
            · refine .mw rfl (.mk1 Tryd.underlying53 info_4) ?_
              rintro v25 _ _ ⟨rfl, rfl⟩
              refine kp ?_
              rw [isT_nil]
              refine JR.know (φ := ∃ A c, v25 = .slice A S.length c) (fun w hs => hs.rowSl (by repeat (first | exact List.Mem.head _ | refine List.Mem.tail _ ?_))) fun ⟨A2, c2, hs2⟩ => ?_
              subst hs2
              refine JR.alt rfl ?_ ?_
              · refine .mw rfl (.ap Tryd.underlying22 info_34) ?_
                rintro v23 _ _ ⟨rfl, rfl⟩
                refine kp ?_
                simp only [Nat.zero_add, List.nil_append]
                refine JR.know (φ := ∃ A c, v23 = .slice A S.length c) (fun w hs => hs.rowSl (by repeat (first | exact List.Mem.head _ | refine List.Mem.tail _ ?_))) fun ⟨A1, c1, hs1⟩ => ?_
                subst hs1
                refine .mw rfl (.mkN Tryd.underlying54 info_31 (zs := List.replicate 32 (Value.int .u8 0))) ?_
                rintro v27 _ _ ⟨rfl, rfl⟩
                refine kp ?_
                rw [vv_nil]
                refine JR.know (φ := ∃ A c, v27 = .slice A S.length c) (fun w hs => hs.rowSl (by repeat (first | exact List.Mem.head _ | refine List.Mem.tail _ ?_))) fun ⟨A3, c3, hs3⟩ => ?_
                subst hs3
                refine .uw rfl (.build bld_56 rfl rfl) ?_
                refine .mw rfl (Mv.box rfl) ?_
                rintro _ _ _ ⟨b31, rfl, rfl, rfl⟩
                refine kp ?_
                refine .uw rfl (.assign rfl) ?_
                refine .uw rfl (.assign rfl) ?_
                refine .nil (.tn (.ret ?_))
                exact .dn [] [Res.cells _ [_, _, _, _] 56, Res.row _ S.length 34 1 (S.map u64), Res.row _ S.length 4 1 (isT S.length fun _ => none), Res.row _ S.length 31 32 (bks dgC (vvL S.length fun _ => none)), Res.row _ S.length 4 1 (agT S.length fun _ => false)] (res2 rfl (.tmp rfl) (.tmp rfl)) ⟨_, _, _, _, _, rfl, rfl, rfl⟩
              refine JA.alt rfl ?_ ?_
              · refine .mw rfl (.mkN Tryd.underlying54 info_31 (zs := List.replicate 32 (Value.int .u8 0))) ?_
                rintro v27 _ _ ⟨rfl, rfl⟩
                refine kp ?_
                rw [vv_nil]
                refine JR.know (φ := ∃ A c, v27 = .slice A S.length c) (fun w hs => hs.rowSl (by repeat (first | exact List.Mem.head _ | refine List.Mem.tail _ ?_))) fun ⟨A3, c3, hs3⟩ => ?_
                subst hs3
                refine .mw rfl (.ap Tryd.underlying22 info_34) ?_
                rintro v23 _ _ ⟨rfl, rfl⟩
                refine kp ?_
                simp only [Nat.zero_add, List.nil_append]
                refine JR.know (φ := ∃ A c, v23 = .slice A S.length c) (fun w hs => hs.rowSl (by repeat (first | exact List.Mem.head _ | refine List.Mem.tail _ ?_))) fun ⟨A1, c1, hs1⟩ => ?_
                subst hs1
                refine .uw rfl (.build bld_56 rfl rfl) ?_
                refine .mw rfl (Mv.box rfl) ?_
                rintro _ _ _ ⟨b31, rfl, rfl, rfl⟩
                refine kp ?_
                refine .uw rfl (.assign rfl) ?_
                refine .uw rfl (.assign rfl) ?_
                refine .nil (.tn (.ret ?_))
                exact .dn [] [Res.cells _ [_, _, _, _] 56, Res.row _ S.length 34 1 (S.map u64), Res.row _ S.length 4 1 (isT S.length fun _ => none), Res.row _ S.length 31 32 (bks dgC (vvL S.length fun _ => none)), Res.row _ S.length 4 1 (agT S.length fun _ => false)] (res2 rfl (.tmp rfl) (.tmp rfl)) ⟨_, _, _, _, _, rfl, rfl, rfl⟩
              exact JA.nil
            refine JA.alt rfl ?_ ?_
            · refine .mw rfl (.mkN Tryd.underlying54 info_31 (zs := List.replicate 32 (Value.int .u8 0))) ?_
              rintro v27 _ _ ⟨rfl, rfl⟩
              refine kp ?_
              rw [vv_nil]
              refine JR.know (φ := ∃ A c, v27 = .slice A S.length c) (fun w hs => hs.rowSl (by repeat (first | exact List.Mem.head _ | refine List.Mem.tail _ ?_))) fun ⟨A3, c3, hs3⟩ => ?_
              subst hs3
              refine JR.alt rfl ?_ ?_
              · refine .mw rfl (.ap Tryd.underlying22 info_34) ?_
                rintro v23 _ _ ⟨rfl, rfl⟩
                refine kp ?_
                simp only [Nat.zero_add, List.nil_append]
                refine JR.know (φ := ∃ A c, v23 = .slice A S.length c) (fun w hs => hs.rowSl (by repeat (first | exact List.Mem.head _ | refine List.Mem.tail _ ?_))) fun ⟨A1, c1, hs1⟩ => ?_
                subst hs1
                refine .mw rfl (.mk1 Tryd.underlying53 info_4) ?_
                rintro v25 _ _ ⟨rfl, rfl⟩
                refine kp ?_
                rw [isT_nil]
                refine JR.know (φ := ∃ A c, v25 = .slice A S.length c) (fun w hs => hs.rowSl (by repeat (first | exact List.Mem.head _ | refine List.Mem.tail _ ?_))) fun ⟨A2, c2, hs2⟩ => ?_
                subst hs2
                refine .uw rfl (.build bld_56 rfl rfl) ?_
                refine .mw rfl (Mv.box rfl) ?_
                rintro _ _ _ ⟨b31, rfl, rfl, rfl⟩
                refine kp ?_
                refine .uw rfl (.assign rfl) ?_
                refine .uw rfl (.assign rfl) ?_
                refine .nil (.tn (.ret ?_))
                exact .dn [] [Res.cells _ [_, _, _, _] 56, Res.row _ S.length 34 1 (S.map u64), Res.row _ S.length 4 1 (isT S.length fun _ => none), Res.row _ S.length 31 32 (bks dgC (vvL S.length fun _ => none)), Res.row _ S.length 4 1 (agT S.length fun _ => false)] (res2 rfl (.tmp rfl) (.tmp rfl)) ⟨_, _, _, _, _, rfl, rfl, rfl⟩
              refine JA.alt rfl ?_ ?_
              · refine .mw rfl (.mk1 Tryd.underlying53 info_4) ?_
                rintro v25 _ _ ⟨rfl, rfl⟩
                refine kp ?_
                rw [isT_nil]
                refine JR.know (φ := ∃ A c, v25 = .slice A S.length c) (fun w hs => hs.rowSl (by repeat (first | exact List.Mem.head _ | refine List.Mem.tail _ ?_))) fun ⟨A2, c2, hs2⟩ => ?_
                subst hs2
                refine .mw rfl (.ap Tryd.underlying22 info_34) ?_
                rintro v23 _ _ ⟨rfl, rfl⟩
                refine kp ?_
                simp only [Nat.zero_add, List.nil_append]
                refine JR.know (φ := ∃ A c, v23 = .slice A S.length c) (fun w hs => hs.rowSl (by repeat (first | exact List.Mem.head _ | refine List.Mem.tail _ ?_))) fun ⟨A1, c1, hs1⟩ => ?_
                subst hs1
                refine .uw rfl (.build bld_56 rfl rfl) ?_
                refine .mw rfl (Mv.box rfl) ?_
                rintro _ _ _ ⟨b31, rfl, rfl, rfl⟩
                refine kp ?_
                refine .uw rfl (.assign rfl) ?_
                refine .uw rfl (.assign rfl) ?_
                refine .nil (.tn (.ret ?_))
                exact .dn [] [Res.cells _ [_, _, _, _] 56, Res.row _ S.length 34 1 (S.map u64), Res.row _ S.length 4 1 (isT S.length fun _ => none), Res.row _ S.length 31 32 (bks dgC (vvL S.length fun _ => none)), Res.row _ S.length 4 1 (agT S.length fun _ => false)] (res2 rfl (.tmp rfl) (.tmp rfl)) ⟨_, _, _, _, _, rfl, rfl, rfl⟩
              exact JA.nil
            exact JA.nil
          exact JA.nil
        refine JA.alt rfl ?_ ?_
        · refine .mw rfl (.mk1 Tryd.underlying53 info_4) ?_
          rintro v25 _ _ ⟨rfl, rfl⟩
          refine kp ?_
          rw [isT_nil]
          refine JR.know (φ := ∃ A c, v25 = .slice A S.length c) (fun w hs => hs.rowSl (by repeat (first | exact List.Mem.head _ | refine List.Mem.tail _ ?_))) fun ⟨A2, c2, hs2⟩ => ?_
          subst hs2
          refine JR.alt rfl ?_ ?_
          · refine .mw rfl (Mv.buildEmpty Tryd.underlying22 sz_34) ?_
            rintro v21 _ _ ⟨rfl, rfl⟩
            refine kp ?_
            refine JR.alt rfl ?_ ?_
            · refine .mw rfl (.ap Tryd.underlying22 info_34) ?_
              rintro v23 _ _ ⟨rfl, rfl⟩
              refine kp ?_
              simp only [Nat.zero_add, List.nil_append]
              refine JR.know (φ := ∃ A c, v23 = .slice A S.length c) (fun w hs => hs.rowSl (by repeat (first | exact List.Mem.head _ | refine List.Mem.tail _ ?_))) fun ⟨A1, c1, hs1⟩ => ?_
              subst hs1
              refine JR.alt rfl ?_ ?_
              · refine .mw rfl (.mkN Tryd.underlying54 info_31 (zs := List.replicate 32 (Value.int .u8 0))) ?_
                rintro v27 _ _ ⟨rfl, rfl⟩
                refine kp ?_
                rw [vv_nil]
                refine JR.know (φ := ∃ A c, v27 = .slice A S.length c) (fun w hs => hs.rowSl (by repeat (first | exact List.Mem.head _ | refine List.Mem.tail _ ?_))) fun ⟨A3, c3, hs3⟩ => ?_
                subst hs3
                refine .mw rfl (.mk1 Tryd.underlying53 info_4) ?_
                rintro v29 _ _ ⟨rfl, rfl⟩
                refine kp ?_
                rw [agT_nil]
                refine JR.know (φ := ∃ A c, v29 = .slice A S.length c) (fun w hs => hs.rowSl (by repeat (first | exact List.Mem.head _ | refine List.Mem.tail _ ?_))) fun ⟨A4, c4, hs4⟩ => ?_
                subst hs4
                refine .uw rfl (.build bld_56 rfl rfl) ?_
                refine .mw rfl (Mv.box rfl) ?_
                rintro _ _ _ ⟨b31, rfl, rfl, rfl⟩
                refine kp ?_
                refine .uw rfl (.assign rfl) ?_
                refine .uw rfl (.assign rfl) ?_
                refine .nil (.tn (.ret ?_))
                exact .dn [] [Res.cells _ [_, _, _, _] 56, Res.row _ S.length 34 1 (S.map u64), Res.row _ S.length 4 1 (isT S.length fun _ => none), Res.row _ S.length 31 32 (bks dgC (vvL S.length fun _ => none)), Res.row _ S.length 4 1 (agT S.length fun _ => false)] (res2 rfl (.tmp rfl) (.tmp rfl)) ⟨_, _, _, _, _, rfl, rfl, rfl⟩
              refine JA.alt rfl ?_ ?_
              · refine .mw rfl (.mk1 Tryd.underlying53 info_4) ?_
                rintro v29 _ _ ⟨rfl, rfl⟩
                refine kp ?_
                rw [agT_nil]
                refine JR.know (φ := ∃ A c, v29 = .slice A S.length c) (fun w hs => hs.rowSl (by repeat (first | exact List.Mem.head _ | refine List.Mem.tail _ ?_))) fun ⟨A4, c4, hs4⟩ => ?_
                subst hs4
                refine .mw rfl (.mkN Tryd.underlying54 info_31 (zs := List.replicate 32 (Value.int .u8 0))) ?_
                rintro v27 _ _ ⟨rfl, rfl⟩
                refine kp ?_
                rw [vv_nil]
                refine JR.know (φ := ∃ A c, v27 = .slice A S.length c) (fun w hs => hs.rowSl (by repeat (first | exact List.Mem.head _ | refine List.Mem.tail _ ?_))) fun ⟨A3, c3, hs3⟩ => ?_
                subst hs3
                refine .uw rfl (.build bld_56 rfl rfl) ?_
                refine .mw rfl (Mv.box rfl) ?_
                rintro _ _ _ ⟨b31, rfl, rfl, rfl⟩
                refine kp ?_
                refine .uw rfl (.assign rfl) ?_
                refine .uw rfl (.assign rfl) ?_
                refine .nil (.tn (.ret ?_))
                exact .dn [] [Res.cells _ [_, _, _, _] 56, Res.row _ S.length 34 1 (S.map u64), Res.row _ S.length 4 1 (isT S.length fun _ => none), Res.row _ S.length 31 32 (bks dgC (vvL S.length fun _ => none)), Res.row _ S.length 4 1 (agT S.length fun _ => false)] (res2 rfl (.tmp rfl) (.tmp rfl)) ⟨_, _, _, _, _, rfl, rfl, rfl⟩
              exact JA.nil
            refine JA.alt rfl ?_ ?_
            · refine .mw rfl (.mkN Tryd.underlying54 info_31 (zs := List.replicate 32 (Value.int .u8 0))) ?_
              rintro v27 _ _ ⟨rfl, rfl⟩
              refine kp ?_
              rw [vv_nil]
              refine JR.know (φ := ∃ A c, v27 = .slice A S.length c) (fun w hs => hs.rowSl (by repeat (first | exact List.Mem.head _ | refine List.Mem.tail _ ?_))) fun ⟨A3, c3, hs3⟩ => ?_
              subst hs3
              refine JR.alt rfl ?_ ?_
              · refine .mw rfl (.ap Tryd.underlying22 info_34) ?_
                rintro v23 _ _ ⟨rfl, rfl⟩
                refine kp ?_
                simp only [Nat.zero_add, List.nil_append]
                refine JR.know (φ := ∃ A c, v23 = .slice A S.length c) (fun w hs => hs.rowSl (by repeat (first | exact List.Mem.head _ | refine List.Mem.tail _ ?_))) fun ⟨A1, c1, hs1⟩ => ?_
                subst hs1
                refine .mw rfl (.mk1 Tryd.underlying53 info_4) ?_
                rintro v29 _ _ ⟨rfl, rfl⟩
                refine kp ?_
                rw [agT_nil]
                refine JR.know (φ := ∃ A c, v29 = .slice A S.length c) (fun w hs => hs.rowSl (by repeat (first | exact List.Mem.head _ | refine List.Mem.tail _ ?_))) fun ⟨A4, c4, hs4⟩ => ?_
                subst hs4
                refine .uw rfl (.build bld_56 rfl rfl) ?_
                refine .mw rfl (Mv.box rfl) ?_
                rintro _ _ _ ⟨b31, rfl, rfl, rfl⟩
                refine kp ?_
                refine .uw rfl (.assign rfl) ?_
                refine .uw rfl (.assign rfl) ?_
                refine .nil (.tn (.ret ?_))
                exact .dn [] [Res.cells _ [_, _, _, _] 56, Res.row _ S.length 34 1 (S.map u64), Res.row _ S.length 4 1 (isT S.length fun _ => none), Res.row _ S.length 31 32 (bks dgC (vvL S.length fun _ => none)), Res.row _ S.length 4 1 (agT S.length fun _ => false)] (res2 rfl (.tmp rfl) (.tmp rfl)) ⟨_, _, _, _, _, rfl, rfl, rfl⟩
              refine JA.alt rfl ?_ ?_
              · refine .mw rfl (.mk1 Tryd.underlying53 info_4) ?_
                rintro v29 _ _ ⟨rfl, rfl⟩
                refine kp ?_
                rw [agT_nil]
                refine JR.know (φ := ∃ A c, v29 = .slice A S.length c) (fun w hs => hs.rowSl (by repeat (first | exact List.Mem.head _ | refine List.Mem.tail _ ?_))) fun ⟨A4, c4, hs4⟩ => ?_
                subst hs4
                refine .mw rfl (.ap Tryd.underlying22 info_34) ?_
                rintro v23 _ _ ⟨rfl, rfl⟩
                refine kp ?_
                simp only [Nat.zero_add, List.nil_append]
                refine JR.know (φ := ∃ A c, v23 = .slice A S.length c) (fun w hs => hs.rowSl (by repeat (first | exact List.Mem.head _ | refine List.Mem.tail _ ?_))) fun ⟨A1, c1, hs1⟩ => ?_
                subst hs1
                refine .uw rfl (.build bld_56 rfl rfl) ?_
                refine .mw rfl (Mv.box rfl) ?_
                rintro _ _ _ ⟨b31, rfl, rfl, rfl⟩
                refine kp ?_
                refine .uw rfl (.assign rfl) ?_
                refine .uw rfl (.assign rfl) ?_
                refine .nil (.tn (.ret ?_))
                exact .dn [] [Res.cells _ [_, _, _, _] 56, Res.row _ S.length 34 1 (S.map u64), Res.row _ S.length 4 1 (isT S.length fun _ => none), Res.row _ S.length 31 32 (bks dgC (vvL S.length fun _ => none)), Res.row _ S.length 4 1 (agT S.length fun _ => false)] (res2 rfl (.tmp rfl) (.tmp rfl)) ⟨_, _, _, _, _, rfl, rfl, rfl⟩
              exact JA.nil
            refine JA.alt rfl ?_ ?_
            · refine .mw rfl (.mk1 Tryd.underlying53 info_4) ?_
              rintro v29 _ _ ⟨rfl, rfl⟩
              refine kp ?_
              rw [agT_nil]
              refine JR.know (φ := ∃ A c, v29 = .slice A S.length c) (fun w hs => hs.rowSl (by repeat (first | exact List.Mem.head _ | refine List.Mem.tail _ ?_))) fun ⟨A4, c4, hs4⟩ => ?_
              subst hs4
              refine JR.alt rfl ?_ ?_
              · refine .mw rfl (.ap Tryd.underlying22 info_34) ?_
                rintro v23 _ _ ⟨rfl, rfl⟩
                refine kp ?_
                simp only [Nat.zero_add, List.nil_append]
                refine JR.know (φ := ∃ A c, v23 = .slice A S.length c) (fun w hs => hs.rowSl (by repeat (first | exact List.Mem.head _ | refine List.Mem.tail _ ?_))) fun ⟨A1, c1, hs1⟩ => ?_
                subst hs1
                refine .mw rfl (.mkN Tryd.underlying54 info_31 (zs := List.replicate 32 (Value.int .u8 0))) ?_
                rintro v27 _ _ ⟨rfl, rfl⟩
                refine kp ?_
                rw [vv_nil]
                refine JR.know (φ := ∃ A c, v27 = .slice A S.length c) (fun w hs => hs.rowSl (by repeat (first | exact List.Mem.head _ | refine List.Mem.tail _ ?_))) fun ⟨A3, c3, hs3⟩ => ?_
                subst hs3
                refine .uw rfl (.build bld_56 rfl rfl) ?_
                refine .mw rfl (Mv.box rfl) ?_
                rintro _ _ _ ⟨b31, rfl, rfl, rfl⟩
                refine kp ?_
                refine .uw rfl (.assign rfl) ?_
                refine .uw rfl (.assign rfl) ?_
                refine .nil (.tn (.ret ?_))
                exact .dn [] [Res.cells _ [_, _, _, _] 56, Res.row _ S.length 34 1 (S.map u64), Res.row _ S.length 4 1 (isT S.length fun _ => none), Res.row _ S.length 31 32 (bks dgC (vvL S.length fun _ => none)), Res.row _ S.length 4 1 (agT S.length fun _ => false)] (res2 rfl (.tmp rfl) (.tmp rfl)) ⟨_, _, _, _, _, rfl, rfl, rfl⟩
              refine JA.alt rfl ?_ ?_
              · refine .mw rfl (.mkN Tryd.underlying54 info_31 (zs := List.replicate 32 (Value.int .u8 0))) ?_
                rintro v27 _ _ ⟨rfl, rfl⟩
                refine kp ?_
                rw [vv_nil]
                refine JR.know (φ := ∃ A c, v27 = .slice A S.length c) (fun w hs => hs.rowSl (by repeat (first | exact List.Mem.head _ | refine List.Mem.tail _ ?_))) fun ⟨A3, c3, hs3⟩ => ?_
                subst hs3
                refine .mw rfl (.ap Tryd.underlying22 info_34) ?_
                rintro v23 _ _ ⟨rfl, rfl⟩
                refine kp ?_
                simp only [Nat.zero_add, List.nil_append]
                refine JR.know (φ := ∃ A c, v23 = .slice A S.length c) (fun w hs => hs.rowSl (by repeat (first | exact List.Mem.head _ | refine List.Mem.tail _ ?_))) fun ⟨A1, c1, hs1⟩ => ?_
                subst hs1
                refine .uw rfl (.build bld_56 rfl rfl) ?_
                refine .mw rfl (Mv.box rfl) ?_
                rintro _ _ _ ⟨b31, rfl, rfl, rfl⟩
                refine kp ?_
                refine .uw rfl (.assign rfl) ?_
                refine .uw rfl (.assign rfl) ?_
                refine .nil (.tn (.ret ?_))
                exact .dn [] [Res.cells _ [_, _, _, _] 56, Res.row _ S.length 34 1 (S.map u64), Res.row _ S.length 4 1 (isT S.length fun _ => none), Res.row _ S.length 31 32 (bks dgC (vvL S.length fun _ => none)), Res.row _ S.length 4 1 (agT S.length fun _ => false)] (res2 rfl (.tmp rfl) (.tmp rfl)) ⟨_, _, _, _, _, rfl, rfl, rfl⟩
              exact JA.nil
            exact JA.nil
          refine JA.alt rfl ?_ ?_
          · refine .mw rfl (.mkN Tryd.underlying54 info_31 (zs := List.replicate 32 (Value.int .u8 0))) ?_
            rintro v27 _ _ ⟨rfl, rfl⟩
            refine kp ?_
            rw [vv_nil]
            refine JR.know (φ := ∃ A c, v27 = .slice A S.length c) (fun w hs => hs.rowSl (by repeat (first | exact List.Mem.head _ | refine List.Mem.tail _ ?_))) fun ⟨A3, c3, hs3⟩ => ?_
            subst hs3
            refine JR.alt rfl ?_ ?_
            · refine .mw rfl (Mv.buildEmpty Tryd.underlying22 sz_34) ?_
              rintro v21 _ _ ⟨rfl, rfl⟩
              refine kp ?_
              refine JR.alt rfl ?_ ?_
              · refine .mw rfl (.ap Tryd.underlying22 info_34) ?_
                rintro v23 _ _ ⟨rfl, rfl⟩
                refine kp ?_
                simp only [Nat.zero_add, List.nil_append]
                refine JR.know (φ := ∃ A c, v23 = .slice A S.length c) (fun w hs => hs.rowSl (by repeat (first | exact List.Mem.head _ | refine List.Mem.tail _ ?_))) fun ⟨A1, c1, hs1⟩ => ?_
                subst hs1
                refine .mw rfl (.mk1 Tryd.underlying53 info_4) ?_
                rintro v29 _ _ ⟨rfl, rfl⟩
                refine kp ?_
                rw [agT_nil]
                refine JR.know (φ := ∃ A c, v29 = .slice A S.length c) (fun w hs => hs.rowSl (by repeat (first | exact List.Mem.head _ | refine List.Mem.tail _ ?_))) fun ⟨A4, c4, hs4⟩ => ?_
                subst hs4
                refine .uw rfl (.build bld_56 rfl rfl) ?_
                refine .mw rfl (Mv.box rfl) ?_
                rintro _ _ _ ⟨b31, rfl, rfl, rfl⟩
                refine kp ?_
                refine .uw rfl (.assign rfl) ?_
                refine .uw rfl (.assign rfl) ?_
                refine .nil (.tn (.ret ?_))
                exact .dn [] [Res.cells _ [_, _, _, _] 56, Res.row _ S.length 34 1 (S.map u64), Res.row _ S.length 4 1 (isT S.length fun _ => none), Res.row _ S.length 31 32 (bks dgC (vvL S.length fun _ => none)), Res.row _ S.length 4 1 (agT S.length fun _ => false)] (res2 rfl (.tmp rfl) (.tmp rfl)) ⟨_, _, _, _, _, rfl, rfl, rfl⟩
              refine JA.alt rfl ?_ ?_
              · refine .mw rfl (.mk1 Tryd.underlying53 info_4) ?_
                rintro v29 _ _ ⟨rfl, rfl⟩
                refine kp ?_
                rw [agT_nil]
                refine JR.know (φ := ∃ A c, v29 = .slice A S.length c) (fun w hs => hs.rowSl (by repeat (first | exact List.Mem.head _ | refine List.Mem.tail _ ?_))) fun ⟨A4, c4, hs4⟩ => ?_
                subst hs4
                refine .mw rfl (.ap Tryd.underlying22 info_34) ?_
                rintro v23 _ _ ⟨rfl, rfl⟩
                refine kp ?_
                simp only [Nat.zero_add, List.nil_append]
                refine JR.know (φ := ∃ A c, v23 = .slice A S.length c) (fun w hs => hs.rowSl (by repeat (first | exact List.Mem.head _ | refine List.Mem.tail _ ?_))) fun ⟨A1, c1, hs1⟩ => ?_
                subst hs1
                refine .uw rfl (.build bld_56 rfl rfl) ?_
                refine .mw rfl (Mv.box rfl) ?_
                rintro _ _ _ ⟨b31, rfl, rfl, rfl⟩
                refine kp ?_
                refine .uw rfl (.assign rfl) ?_
                refine .uw rfl (.assign rfl) ?_
                refine .nil (.tn (.ret ?_))
                exact .dn [] [Res.cells _ [_, _, _, _] 56, Res.row _ S.length 34 1 (S.map u64), Res.row _ S.length 4 1 (isT S.length fun _ => none), Res.row _ S.length 31 32 (bks dgC (vvL S.length fun _ => none)), Res.row _ S.length 4 1 (agT S.length fun _ => false)] (res2 rfl (.tmp rfl) (.tmp rfl)) ⟨_, _, _, _, _, rfl, rfl, rfl⟩
              exact JA.nil
            refine JA.alt rfl ?_ ?_
            · refine .mw rfl (.mk1 Tryd.underlying53 info_4) ?_
              rintro v29 _ _ ⟨rfl, rfl⟩
              refine kp ?_
              rw [agT_nil]
              refine JR.know (φ := ∃ A c, v29 = .slice A S.length c) (fun w hs => hs.rowSl (by repeat (first | exact List.Mem.head _ | refine List.Mem.tail _ ?_))) fun ⟨A4, c4, hs4⟩ => ?_
              subst hs4
              refine .mw rfl (Mv.buildEmpty Tryd.underlying22 sz_34) ?_
              rintro v21 _ _ ⟨rfl, rfl⟩
              refine kp ?_
              refine .mw rfl (.ap Tryd.underlying22 info_34) ?_
              rintro v23 _ _ ⟨rfl, rfl⟩
              refine kp ?_
              simp only [Nat.zero_add, List.nil_append]
              refine JR.know (φ := ∃ A c, v23 = .slice A S.length c) (fun w hs => hs.rowSl (by repeat (first | exact List.Mem.head _ | refine List.Mem.tail _ ?_))) fun ⟨A1, c1, hs1⟩ => ?_
              subst hs1
              refine .uw rfl (.build bld_56 rfl rfl) ?_
              refine .mw rfl (Mv.box rfl) ?_
              rintro _ _ _ ⟨b31, rfl, rfl, rfl⟩
              refine kp ?_
              refine .uw rfl (.assign rfl) ?_
              refine .uw rfl (.assign rfl) ?_
              refine .nil (.tn (.ret ?_))
              exact .dn [] [Res.cells _ [_, _, _, _] 56, Res.row _ S.length 34 1 (S.map u64), Res.row _ S.length 4 1 (isT S.length fun _ => none), Res.row _ S.length 31 32 (bks dgC (vvL S.length fun _ => none)), Res.row _ S.length 4 1 (agT S.length fun _ => false)] (res2 rfl (.tmp rfl) (.tmp rfl)) ⟨_, _, _, _, _, rfl, rfl, rfl⟩
            exact JA.nil
          refine JA.alt rfl ?_ ?_
          · refine .mw rfl (.mk1 Tryd.underlying53 info_4) ?_
            rintro v29 _ _ ⟨rfl, rfl⟩
            refine kp ?_
            rw [agT_nil]
            refine JR.know (φ := ∃ A c, v29 = .slice A S.length c) (fun w hs => hs.rowSl (by repeat (first | exact List.Mem.head _ | refine List.Mem.tail _ ?_))) fun ⟨A4, c4, hs4⟩ => ?_
            subst hs4
            refine JR.alt rfl ?_ ?_
            · refine .mw rfl (Mv.buildEmpty Tryd.underlying22 sz_34) ?_
              rintro v21 _ _ ⟨rfl, rfl⟩
              refine kp ?_
              refine JR.alt rfl ?_ ?_
              · refine .mw rfl (.ap Tryd.underlying22 info_34) ?_
                rintro v23 _ _ ⟨rfl, rfl⟩
                refine kp ?_
                simp only [Nat.zero_add, List.nil_append]
                refine JR.know (φ := ∃ A c, v23 = .slice A S.length c) (fun w hs => hs.rowSl (by repeat (first | exact List.Mem.head _ | refine List.Mem.tail _ ?_))) fun ⟨A1, c1, hs1⟩ => ?_
                subst hs1
                refine .mw rfl (.mkN Tryd.underlying54 info_31 (zs := List.replicate 32 (Value.int .u8 0))) ?_
                rintro v27 _ _ ⟨rfl, rfl⟩
                refine kp ?_
                rw [vv_nil]
                refine JR.know (φ := ∃ A c, v27 = .slice A S.length c) (fun w hs => hs.rowSl (by repeat (first | exact List.Mem.head _ | refine List.Mem.tail _ ?_))) fun ⟨A3, c3, hs3⟩ => ?_
                subst hs3
                refine .uw rfl (.build bld_56 rfl rfl) ?_
                refine .mw rfl (Mv.box rfl) ?_
                rintro _ _ _ ⟨b31, rfl, rfl, rfl⟩
                refine kp ?_
                refine .uw rfl (.assign rfl) ?_
                refine .uw rfl (.assign rfl) ?_
                refine .nil (.tn (.ret ?_))
                exact .dn [] [Res.cells _ [_, _, _, _] 56, Res.row _ S.length 34 1 (S.map u64), Res.row _ S.length 4 1 (isT S.length fun _ => none), Res.row _ S.length 31 32 (bks dgC (vvL S.length fun _ => none)), Res.row _ S.length 4 1 (agT S.length fun _ => false)] (res2 rfl (.tmp rfl) (.tmp rfl)) ⟨_, _, _, _, _, rfl, rfl, rfl⟩
              refine JA.alt rfl ?_ ?_
              · refine .mw rfl (.mkN Tryd.underlying54 info_31 (zs := List.replicate 32 (Value.int .u8 0))) ?_
                rintro v27 _ _ ⟨rfl, rfl⟩
                refine kp ?_
                rw [vv_nil]
                refine JR.know (φ := ∃ A c, v27 = .slice A S.length c) (fun w hs => hs.rowSl (by repeat (first | exact List.Mem.head _ | refine List.Mem.tail _ ?_))) fun ⟨A3, c3, hs3⟩ => ?_
                subst hs3
                refine .mw rfl (.ap Tryd.underlying22 info_34) ?_
                rintro v23 _ _ ⟨rfl, rfl⟩
                refine kp ?_
                simp only [Nat.zero_add, List.nil_append]
                refine JR.know (φ := ∃ A c, v23 = .slice A S.length c) (fun w hs => hs.rowSl (by repeat (first | exact List.Mem.head _ | refine List.Mem.tail _ ?_))) fun ⟨A1, c1, hs1⟩ => ?_
                subst hs1
                refine .uw rfl (.build bld_56 rfl rfl) ?_
                refine .mw rfl (Mv.box rfl) ?_
                rintro _ _ _ ⟨b31, rfl, rfl, rfl⟩
                refine kp ?_
                refine .uw rfl (.assign rfl) ?_
                refine .uw rfl (.assign rfl) ?_
                refine .nil (.tn (.ret ?_))
                exact .dn [] [Res.cells _ [_, _, _, _] 56, Res.row _ S.length 34 1 (S.map u64), Res.row _ S.length 4 1 (isT S.length fun _ => none), Res.row _ S.length 31 32 (bks dgC (vvL S.length fun _ => none)), Res.row _ S.length 4 1 (agT S.length fun _ => false)] (res2 rfl (.tmp rfl) (.tmp rfl)) ⟨_, _, _, _, _, rfl, rfl, rfl⟩
              exact JA.nil
            refine JA.alt rfl ?_ ?_
            · refine .mw rfl (.mkN Tryd.underlying54 info_31 (zs := List.replicate 32 (Value.int .u8 0))) ?_
              rintro v27 _ _ ⟨rfl, rfl⟩
              refine kp ?_
              rw [vv_nil]
              refine JR.know (φ := ∃ A c, v27 = .slice A S.length c) (fun w hs => hs.rowSl (by repeat (first | exact List.Mem.head _ | refine List.Mem.tail _ ?_))) fun ⟨A3, c3, hs3⟩ => ?_
              subst hs3
              refine .mw rfl (Mv.buildEmpty Tryd.underlying22 sz_34) ?_
              rintro v21 _ _ ⟨rfl, rfl⟩
              refine kp ?_
              refine .mw rfl (.ap Tryd.underlying22 info_34) ?_
              rintro v23 _ _ ⟨rfl, rfl⟩
              refine kp ?_
              simp only [Nat.zero_add, List.nil_append]
              refine JR.know (φ := ∃ A c, v23 = .slice A S.length c) (fun w hs => hs.rowSl (by repeat (first | exact List.Mem.head _ | refine List.Mem.tail _ ?_))) fun ⟨A1, c1, hs1⟩ => ?_
              subst hs1
              refine .uw rfl (.build bld_56 rfl rfl) ?_
              refine .mw rfl (Mv.box rfl) ?_
              rintro _ _ _ ⟨b31, rfl, rfl, rfl⟩
              refine kp ?_
              refine .uw rfl (.assign rfl) ?_
              refine .uw rfl (.assign rfl) ?_
              refine .nil (.tn (.ret ?_))
              exact .dn [] [Res.cells _ [_, _, _, _] 56, Res.row _ S.length 34 1 (S.map u64), Res.row _ S.length 4 1 (isT S.length fun _ => none), Res.row _ S.length 31 32 (bks dgC (vvL S.length fun _ => none)), Res.row _ S.length 4 1 (agT S.length fun _ => false)] (res2 rfl (.tmp rfl) (.tmp rfl)) ⟨_, _, _, _, _, rfl, rfl, rfl⟩
            exact JA.nil
          exact JA.nil
        refine JA.alt rfl ?_ ?_
        · refine .mw rfl (.mkN Tryd.underlying54 info_31 (zs := List.replicate 32 (Value.int .u8 0))) ?_
          rintro v27 _ _ ⟨rfl, rfl⟩
          refine kp ?_
          rw [vv_nil]
          refine JR.know (φ := ∃ A c, v27 = .slice A S.length c) (fun w hs => hs.rowSl (by repeat (first | exact List.Mem.head _ | refine List.Mem.tail _ ?_))) fun ⟨A3, c3, hs3⟩ => ?_
          subst hs3
          refine JR.alt rfl ?_ ?_
          · refine .mw rfl (Mv.buildEmpty Tryd.underlying22 sz_34) ?_
            rintro v21 _ _ ⟨rfl, rfl⟩
            refine kp ?_
            refine JR.alt rfl ?_ ?_
            · refine .mw rfl (.ap Tryd.underlying22 info_34) ?_
              rintro v23 _ _ ⟨rfl, rfl⟩
              refine kp ?_
              simp only [Nat.zero_add, List.nil_append]
              refine JR.know (φ := ∃ A c, v23 = .slice A S.length c) (fun w hs => hs.rowSl (by repeat (first | exact List.Mem.head _ | refine List.Mem.tail _ ?_))) fun ⟨A1, c1, hs1⟩ => ?_
              subst hs1
              refine JR.alt rfl ?_ ?_
              · refine .mw rfl (.mk1 Tryd.underlying53 info_4) ?_
                rintro v25 _ _ ⟨rfl, rfl⟩
                refine kp ?_
                rw [isT_nil]
                refine JR.know (φ := ∃ A c, v25 = .slice A S.length c) (fun w hs => hs.rowSl (by repeat (first | exact List.Mem.head _ | refine List.Mem.tail _ ?_))) fun ⟨A2, c2, hs2⟩ => ?_
                subst hs2
                refine .mw rfl (.mk1 Tryd.underlying53 info_4) ?_
                rintro v29 _ _ ⟨rfl, rfl⟩
                refine kp ?_
                rw [agT_nil]
                refine JR.know (φ := ∃ A c, v29 = .slice A S.length c) (fun w hs => hs.rowSl (by repeat (first | exact List.Mem.head _ | refine List.Mem.tail _ ?_))) fun ⟨A4, c4, hs4⟩ => ?_
                subst hs4
                refine .uw rfl (.build bld_56 rfl rfl) ?_
                refine .mw rfl (Mv.box rfl) ?_
                rintro _ _ _ ⟨b31, rfl, rfl, rfl⟩
                refine kp ?_
                refine .uw rfl (.assign rfl) ?_
                refine .uw rfl (.assign rfl) ?_
                refine .nil (.tn (.ret ?_))
                exact .dn [] [Res.cells _ [_, _, _, _] 56, Res.row _ S.length 34 1 (S.map u64), Res.row _ S.length 4 1 (isT S.length fun _ => none), Res.row _ S.length 31 32 (bks dgC (vvL S.length fun _ => none)), Res.row _ S.length 4 1 (agT S.length fun _ => false)] (res2 rfl (.tmp rfl) (.tmp rfl)) ⟨_, _, _, _, _, rfl, rfl, rfl⟩
              refine JA.alt rfl ?_ ?_
              · refine .mw rfl (.mk1 Tryd.underlying53 info_4) ?_
                rintro v29 _ _ ⟨rfl, rfl⟩
                refine kp ?_
                rw [agT_nil]
                refine JR.know (φ := ∃ A c, v29 = .slice A S.length c) (fun w hs => hs.rowSl (by repeat (first | exact List.Mem.head _ | refine List.Mem.tail _ ?_))) fun ⟨A4, c4, hs4⟩ => ?_
                subst hs4
                refine .mw rfl (.mk1 Tryd.underlying53 info_4) ?_
                rintro v25 _ _ ⟨rfl, rfl⟩
                refine kp ?_
                rw [isT_nil]
                refine JR.know (φ := ∃ A c, v25 = .slice A S.length c) (fun w hs => hs.rowSl (by repeat (first | exact List.Mem.head _ | refine List.Mem.tail _ ?_))) fun ⟨A2, c2, hs2⟩ => ?_
                subst hs2
                refine .uw rfl (.build bld_56 rfl rfl) ?_
                refine .mw rfl (Mv.box rfl) ?_
                rintro _ _ _ ⟨b31, rfl, rfl, rfl⟩
                refine kp ?_
                refine .uw rfl (.assign rfl) ?_
                refine .uw rfl (.assign rfl) ?_
                refine .nil (.tn (.ret ?_))
                exact .dn [] [Res.cells _ [_, _, _, _] 56, Res.row _ S.length 34 1 (S.map u64), Res.row _ S.length 4 1 (isT S.length fun _ => none), Res.row _ S.length 31 32 (bks dgC (vvL S.length fun _ => none)), Res.row _ S.length 4 1 (agT S.length fun _ => false)] (res2 rfl (.tmp rfl) (.tmp rfl)) ⟨_, _, _, _, _, rfl, rfl, rfl⟩
              exact JA.nil
            refine JA.alt rfl ?_ ?_
            · refine .mw rfl (.mk1 Tryd.underlying53 info_4) ?_
              rintro v25 _ _ ⟨rfl, rfl⟩
              refine kp ?_
              rw [isT_nil]
              refine JR.know (φ := ∃ A c, v25 = .slice A S.length c) (fun w hs => hs.rowSl (by repeat (first | exact List.Mem.head _ | refine List.Mem.tail _ ?_))) fun ⟨A2, c2, hs2⟩ => ?_
              subst hs2
              refine JR.alt rfl ?_ ?_
              · refine .mw rfl (.ap Tryd.underlying22 info_34) ?_
                rintro v23 _ _ ⟨rfl, rfl⟩
                refine kp ?_
                simp only [Nat.zero_add, List.nil_append]
                refine JR.know (φ := ∃ A c, v23 = .slice A S.length c) (fun w hs => hs.rowSl (by repeat (first | exact List.Mem.head _ | refine List.Mem.tail _ ?_))) fun ⟨A1, c1, hs1⟩ => ?_
                subst hs1
                refine .mw rfl (.mk1 Tryd.underlying53 info_4) ?_
                rintro v29 _ _ ⟨rfl, rfl⟩
                refine kp ?_
                rw [agT_nil]
                refine JR.know (φ := ∃ A c, v29 = .slice A S.length c) (fun w hs => hs.rowSl (by repeat (first | exact List.Mem.head _ | refine List.Mem.tail _ ?_))) fun ⟨A4, c4, hs4⟩ => ?_
                subst hs4
                refine .uw rfl (.build bld_56 rfl rfl) ?_
                refine .mw rfl (Mv.box rfl) ?_
                rintro _ _ _ ⟨b31, rfl, rfl, rfl⟩
                refine kp ?_
                refine .uw rfl (.assign rfl) ?_
                refine .uw rfl (.assign rfl) ?_
                refine .nil (.tn (.ret ?_))
                exact .dn [] [Res.cells _ [_, _, _, _] 56, Res.row _ S.length 34 1 (S.map u64), Res.row _ S.length 4 1 (isT S.length fun _ => none), Res.row _ S.length 31 32 (bks dgC (vvL S.length fun _ => none)), Res.row _ S.length 4 1 (agT S.length fun _ => false)] (res2 rfl (.tmp rfl) (.tmp rfl)) ⟨_, _, _, _, _, rfl, rfl, rfl⟩
              refine JA.alt rfl ?_ ?_
              · refine .mw rfl (.mk1 Tryd.underlying53 info_4) ?_
                rintro v29 _ _ ⟨rfl, rfl⟩
                refine kp ?_
                rw [agT_nil]
                refine JR.know (φ := ∃ A c, v29 = .slice A S.length c) (fun w hs => hs.rowSl (by repeat (first | exact List.Mem.head _ | refine List.Mem.tail _ ?_))) fun ⟨A4, c4, hs4⟩ => ?_
                subst hs4
                refine .mw rfl (.ap Tryd.underlying22 info_34) ?_
                rintro v23 _ _ ⟨rfl, rfl⟩
                refine kp ?_
                simp only [Nat.zero_add, List.nil_append]
                refine JR.know (φ := ∃ A c, v23 = .slice A S.length c) (fun w hs => hs.rowSl (by repeat (first | exact List.Mem.head _ | refine List.Mem.tail _ ?_))) fun ⟨A1, c1, hs1⟩ => ?_
                subst hs1
                refine .uw rfl (.build bld_56 rfl rfl) ?_
                refine .mw rfl (Mv.box rfl) ?_
                rintro _ _ _ ⟨b31, rfl, rfl, rfl⟩
                refine kp ?_
                refine .uw rfl (.assign rfl) ?_
                refine .uw rfl (.assign rfl) ?_
                refine .nil (.tn (.ret ?_))
                exact .dn [] [Res.cells _ [_, _, _, _] 56, Res.row _ S.length 34 1 (S.map u64), Res.row _ S.length 4 1 (isT S.length fun _ => none), Res.row _ S.length 31 32 (bks dgC (vvL S.length fun _ => none)), Res.row _ S.length 4 1 (agT S.length fun _ => false)] (res2 rfl (.tmp rfl) (.tmp rfl)) ⟨_, _, _, _, _, rfl, rfl, rfl⟩
              exact JA.nil
            refine JA.alt rfl ?_ ?_
            · refine .mw rfl (.mk1 Tryd.underlying53 info_4) ?_
              rintro v29 _ _ ⟨rfl, rfl⟩
              refine kp ?_
              rw [agT_nil]
              refine JR.know (φ := ∃ A c, v29 = .slice A S.length c) (fun w hs => hs.rowSl (by repeat (first | exact List.Mem.head _ | refine List.Mem.tail _ ?_))) fun ⟨A4, c4, hs4⟩ => ?_
              subst hs4
              refine JR.alt rfl ?_ ?_
              · refine .mw rfl (.ap Tryd.underlying22 info_34) ?_
                rintro v23 _ _ ⟨rfl, rfl⟩
                refine kp ?_
                simp only [Nat.zero_add, List.nil_append]
                refine JR.know (φ := ∃ A c, v23 = .slice A S.length c) (fun w hs => hs.rowSl (by repeat (first | exact List.Mem.head _ | refine List.Mem.tail _ ?_))) fun ⟨A1, c1, hs1⟩ => ?_
                subst hs1
                refine .mw rfl (.mk1 Tryd.underlying53 info_4) ?_
                rintro v25 _ _ ⟨rfl, rfl⟩
                refine kp ?_
                rw [isT_nil]
                refine JR.know (φ := ∃ A c, v25 = .slice A S.length c) (fun w hs => hs.rowSl (by repeat (first | exact List.Mem.head _ | refine List.Mem.tail _ ?_))) fun ⟨A2, c2, hs2⟩ => ?_
                subst hs2
                refine .uw rfl (.build bld_56 rfl rfl) ?_
                refine .mw rfl (Mv.box rfl) ?_
                rintro _ _ _ ⟨b31, rfl, rfl, rfl⟩
                refine kp ?_
                refine .uw rfl (.assign rfl) ?_
                refine .uw rfl (.assign rfl) ?_
                refine .nil (.tn (.ret ?_))
                exact .dn [] [Res.cells _ [_, _, _, _] 56, Res.row _ S.length 34 1 (S.map u64), Res.row _ S.length 4 1 (isT S.length fun _ => none), Res.row _ S.length 31 32 (bks dgC (vvL S.length fun _ => none)), Res.row _ S.length 4 1 (agT S.length fun _ => false)] (res2 rfl (.tmp rfl) (.tmp rfl)) ⟨_, _, _, _, _, rfl, rfl, rfl⟩
              refine JA.alt rfl ?_ ?_
              · refine .mw rfl (.mk1 Tryd.underlying53 info_4) ?_
                rintro v25 _ _ ⟨rfl, rfl⟩
                refine kp ?_
                rw [isT_nil]
                refine JR.know (φ := ∃ A c, v25 = .slice A S.length c) (fun w hs => hs.rowSl (by repeat (first | exact List.Mem.head _ | refine List.Mem.tail _ ?_))) fun ⟨A2, c2, hs2⟩ => ?_
                subst hs2
                refine .mw rfl (.ap Tryd.underlying22 info_34) ?_
                rintro v23 _ _ ⟨rfl, rfl⟩
                refine kp ?_
                simp only [Nat.zero_add, List.nil_append]
                refine JR.know (φ := ∃ A c, v23 = .slice A S.length c) (fun w hs => hs.rowSl (by repeat (first | exact List.Mem.head _ | refine List.Mem.tail _ ?_))) fun ⟨A1, c1, hs1⟩ => ?_
                subst hs1
                refine .uw rfl (.build bld_56 rfl rfl) ?_
                refine .mw rfl (Mv.box rfl) ?_
                rintro _ _ _ ⟨b31, rfl, rfl, rfl⟩
                refine kp ?_
                refine .uw rfl (.assign rfl) ?_
                refine .uw rfl (.assign rfl) ?_
                refine .nil (.tn (.ret ?_))
                exact .dn [] [Res.cells _ [_, _, _, _] 56, Res.row _ S.length 34 1 (S.map u64), Res.row _ S.length 4 1 (isT S.length fun _ => none), Res.row _ S.length 31 32 (bks dgC (vvL S.length fun _ => none)), Res.row _ S.length 4 1 (agT S.length fun _ => false)] (res2 rfl (.tmp rfl) (.tmp rfl)) ⟨_, _, _, _, _, rfl, rfl, rfl⟩
              exact JA.nil
            exact JA.nil
          refine JA.alt rfl ?_ ?_
          · refine .mw rfl (.mk1 Tryd.underlying53 info_4) ?_
            rintro v25 _ _ ⟨rfl, rfl⟩
            refine kp ?_
            rw [isT_nil]
            refine JR.know (φ := ∃ A c, v25 = .slice A S.length c) (fun w hs => hs.rowSl (by repeat (first | exact List.Mem.head _ | refine List.Mem.tail _ ?_))) fun ⟨A2, c2, hs2⟩ => ?_
            subst hs2
            refine JR.alt rfl ?_ ?_
            · refine .mw rfl (Mv.buildEmpty Tryd.underlying22 sz_34) ?_
              rintro v21 _ _ ⟨rfl, rfl⟩
              refine kp ?_
              refine JR.alt rfl ?_ ?_
              · refine .mw rfl (.ap Tryd.underlying22 info_34) ?_
                rintro v23 _ _ ⟨rfl, rfl⟩
                refine kp ?_
                simp only [Nat.zero_add, List.nil_append]
                refine JR.know (φ := ∃ A c, v23 = .slice A S.length c) (fun w hs => hs.rowSl (by repeat (first | exact List.Mem.head _ | refine List.Mem.tail _ ?_))) fun ⟨A1, c1, hs1⟩ => ?_
                subst hs1
                refine .mw rfl (.mk1 Tryd.underlying53 info_4) ?_
                rintro v29 _ _ ⟨rfl, rfl⟩
                refine kp ?_
                rw [agT_nil]
                refine JR.know (φ := ∃ A c, v29 = .slice A S.length c) (fun w hs => hs.rowSl (by repeat (first | exact List.Mem.head _ | refine List.Mem.tail _ ?_))) fun ⟨A4, c4, hs4⟩ => ?_
                subst hs4
                refine .uw rfl (.build bld_56 rfl rfl) ?_
                refine .mw rfl (Mv.box rfl) ?_
                rintro _ _ _ ⟨b31, rfl, rfl, rfl⟩
                refine kp ?_
                refine .uw rfl (.assign rfl) ?_
                refine .uw rfl (.assign rfl) ?_
                refine .nil (.tn (.ret ?_))
                exact .dn [] [Res.cells _ [_, _, _, _] 56, Res.row _ S.length 34 1 (S.map u64), Res.row _ S.length 4 1 (isT S.length fun _ => none), Res.row _ S.length 31 32 (bks dgC (vvL S.length fun _ => none)), Res.row _ S.length 4 1 (agT S.length fun _ => false)] (res2 rfl (.tmp rfl) (.tmp rfl)) ⟨_, _, _, _, _, rfl, rfl, rfl⟩
              refine JA.alt rfl ?_ ?_
              · refine .mw rfl (.mk1 Tryd.underlying53 info_4) ?_
                rintro v29 _ _ ⟨rfl, rfl⟩
                refine kp ?_
                rw [agT_nil]
                refine JR.know (φ := ∃ A c, v29 = .slice A S.length c) (fun w hs => hs.rowSl (by repeat (first | exact List.Mem.head _ | refine List.Mem.tail _ ?_))) fun ⟨A4, c4, hs4⟩ => ?_
                subst hs4
                refine .mw rfl (.ap Tryd.underlying22 info_34) ?_
                rintro v23 _ _ ⟨rfl, rfl⟩
                refine kp ?_
                simp only [Nat.zero_add, List.nil_append]
                refine JR.know (φ := ∃ A c, v23 = .slice A S.length c) (fun w hs => hs.rowSl (by repeat (first | exact List.Mem.head _ | refine List.Mem.tail _ ?_))) fun ⟨A1, c1, hs1⟩ => ?_
                subst hs1
                refine .uw rfl (.build bld_56 rfl rfl) ?_
                refine .mw rfl (Mv.box rfl) ?_
                rintro _ _ _ ⟨b31, rfl, rfl, rfl⟩
                refine kp ?_
                refine .uw rfl (.assign rfl) ?_
                refine .uw rfl (.assign rfl) ?_
                refine .nil (.tn (.ret ?_))
                exact .dn [] [Res.cells _ [_, _, _, _] 56, Res.row _ S.length 34 1 (S.map u64), Res.row _ S.length 4 1 (isT S.length fun _ => none), Res.row _ S.length 31 32 (bks dgC (vvL S.length fun _ => none)), Res.row _ S.length 4 1 (agT S.length fun _ => false)] (res2 rfl (.tmp rfl) (.tmp rfl)) ⟨_, _, _, _, _, rfl, rfl, rfl⟩
              exact JA.nil
            refine JA.alt rfl ?_ ?_
            · refine .mw rfl (.mk1 Tryd.underlying53 info_4) ?_
              rintro v29 _ _ ⟨rfl, rfl⟩
              refine kp ?_
              rw [agT_nil]
              refine JR.know (φ := ∃ A c, v29 = .slice A S.length c) (fun w hs => hs.rowSl (by repeat (first | exact List.Mem.head _ | refine List.Mem.tail _ ?_))) fun ⟨A4, c4, hs4⟩ => ?_
              subst hs4
              refine .mw rfl (Mv.buildEmpty Tryd.underlying22 sz_34) ?_
              rintro v21 _ _ ⟨rfl, rfl⟩
              refine kp ?_
              refine .mw rfl (.ap Tryd.underlying22 info_34) ?_
              rintro v23 _ _ ⟨rfl, rfl⟩
              refine kp ?_
              simp only [Nat.zero_add, List.nil_append]
              refine JR.know (φ := ∃ A c, v23 = .slice A S.length c) (fun w hs => hs.rowSl (by repeat (first | exact List.Mem.head _ | refine List.Mem.tail _ ?_))) fun ⟨A1, c1, hs1⟩ => ?_
              subst hs1
              refine .uw rfl (.build bld_56 rfl rfl) ?_
              refine .mw rfl (Mv.box rfl) ?_
              rintro _ _ _ ⟨b31, rfl, rfl, rfl⟩
              refine kp ?_
              refine .uw rfl (.assign rfl) ?_
              refine .uw rfl (.assign rfl) ?_
              refine .nil (.tn (.ret ?_))
              exact .dn [] [Res.cells _ [_, _, _, _] 56, Res.row _ S.length 34 1 (S.map u64), Res.row _ S.length 4 1 (isT S.length fun _ => none), Res.row _ S.length 31 32 (bks dgC (vvL S.length fun _ => none)), Res.row _ S.length 4 1 (agT S.length fun _ => false)] (res2 rfl (.tmp rfl) (.tmp rfl)) ⟨_, _, _, _, _, rfl, rfl, rfl⟩
            exact JA.nil
          refine JA.alt rfl ?_ ?_
          · refine .mw rfl (.mk1 Tryd.underlying53 info_4) ?_
            rintro v29 _ _ ⟨rfl, rfl⟩
            refine kp ?_
            rw [agT_nil]
            refine JR.know (φ := ∃ A c, v29 = .slice A S.length c) (fun w hs => hs.rowSl (by repeat (first | exact List.Mem.head _ | refine List.Mem.tail _ ?_))) fun ⟨A4, c4, hs4⟩ => ?_
            subst hs4
            refine JR.alt rfl ?_ ?_
            · refine .mw rfl (Mv.buildEmpty Tryd.underlying22 sz_34) ?_
              rintro v21 _ _ ⟨rfl, rfl⟩
              refine kp ?_
              refine JR.alt rfl ?_ ?_
              · refine .mw rfl (.ap Tryd.underlying22 info_34) ?_
                rintro v23 _ _ ⟨rfl, rfl⟩
                refine kp ?_
                simp only [Nat.zero_add, List.nil_append]
                refine JR.know (φ := ∃ A c, v23 = .slice A S.length c) (fun w hs => hs.rowSl (by repeat (first | exact List.Mem.head _ | refine List.Mem.tail _ ?_))) fun ⟨A1, c1, hs1⟩ => ?_
                subst hs1
                refine .mw rfl (.mk1 Tryd.underlying53 info_4) ?_
                rintro v25 _ _ ⟨rfl, rfl⟩
                refine kp ?_
                rw [isT_nil]
                refine JR.know (φ := ∃ A c, v25 = .slice A S.length c) (fun w hs => hs.rowSl (by repeat (first | exact List.Mem.head _ | refine List.Mem.tail _ ?_))) fun ⟨A2, c2, hs2⟩ => ?_
                subst hs2
                refine .uw rfl (.build bld_56 rfl rfl) ?_
                refine .mw rfl (Mv.box rfl) ?_
                rintro _ _ _ ⟨b31, rfl, rfl, rfl⟩
                refine kp ?_
                refine .uw rfl (.assign rfl) ?_
                refine .uw rfl (.assign rfl) ?_
                refine .nil (.tn (.ret ?_))
                exact .dn [] [Res.cells _ [_, _, _, _] 56, Res.row _ S.length 34 1 (S.map u64), Res.row _ S.length 4 1 (isT S.length fun _ => none), Res.row _ S.length 31 32 (bks dgC (vvL S.length fun _ => none)), Res.row _ S.length 4 1 (agT S.length fun _ => false)] (res2 rfl (.tmp rfl) (.tmp rfl)) ⟨_, _, _, _, _, rfl, rfl, rfl⟩
              refine JA.alt rfl ?_ ?_
              · refine .mw rfl (.mk1 Tryd.underlying53 info_4) ?_
                rintro v25 _ _ ⟨rfl, rfl⟩
                refine kp ?_
                rw [isT_nil]
                refine JR.know (φ := ∃ A c, v25 = .slice A S.length c) (fun w hs => hs.rowSl (by repeat (first | exact List.Mem.head _ | refine List.Mem.tail _ ?_))) fun ⟨A2, c2, hs2⟩ => ?_
                subst hs2
                refine .mw rfl (.ap Tryd.underlying22 info_34) ?_
                rintro v23 _ _ ⟨rfl, rfl⟩
                refine kp ?_
                simp only [Nat.zero_add, List.nil_append]
                refine JR.know (φ := ∃ A c, v23 = .slice A S.length c) (fun w hs => hs.rowSl (by repeat (first | exact List.Mem.head _ | refine List.Mem.tail _ ?_))) fun ⟨A1, c1, hs1⟩ => ?_
                subst hs1
                refine .uw rfl (.build bld_56 rfl rfl) ?_
                refine .mw rfl (Mv.box rfl) ?_
                rintro _ _ _ ⟨b31, rfl, rfl, rfl⟩
                refine kp ?_
                refine .uw rfl (.assign rfl) ?_
                refine .uw rfl (.assign rfl) ?_
                refine .nil (.tn (.ret ?_))
                exact .dn [] [Res.cells _ [_, _, _, _] 56, Res.row _ S.length 34 1 (S.map u64), Res.row _ S.length 4 1 (isT S.length fun _ => none), Res.row _ S.length 31 32 (bks dgC (vvL S.length fun _ => none)), Res.row _ S.length 4 1 (agT S.length fun _ => false)] (res2 rfl (.tmp rfl) (.tmp rfl)) ⟨_, _, _, _, _, rfl, rfl, rfl⟩
              exact JA.nil
            refine JA.alt rfl ?_ ?_
            · refine .mw rfl (.mk1 Tryd.underlying53 info_4) ?_
              rintro v25 _ _ ⟨rfl, rfl⟩
              refine kp ?_
              rw [isT_nil]
              refine JR.know (φ := ∃ A c, v25 = .slice A S.length c) (fun w hs => hs.rowSl (by repeat (first | exact List.Mem.head _ | refine List.Mem.tail _ ?_))) fun ⟨A2, c2, hs2⟩ => ?_
              subst hs2
              refine .mw rfl (Mv.buildEmpty Tryd.underlying22 sz_34) ?_
              rintro v21 _ _ ⟨rfl, rfl⟩
              refine kp ?_
              refine .mw rfl (.ap Tryd.underlying22 info_34) ?_
              rintro v23 _ _ ⟨rfl, rfl⟩
              refine kp ?_
              simp only [Nat.zero_add, List.nil_append]
              refine JR.know (φ := ∃ A c, v23 = .slice A S.length c) (fun w hs => hs.rowSl (by repeat (first | exact List.Mem.head _ | refine List.Mem.tail _ ?_))) fun ⟨A1, c1, hs1⟩ => ?_
              subst hs1
              refine .uw rfl (.build bld_56 rfl rfl) ?_
              refine .mw rfl (Mv.box rfl) ?_
              rintro _ _ _ ⟨b31, rfl, rfl, rfl⟩
              refine kp ?_
              refine .uw rfl (.assign rfl) ?_
              refine .uw rfl (.assign rfl) ?_
              refine .nil (.tn (.ret ?_))
              exact .dn [] [Res.cells _ [_, _, _, _] 56, Res.row _ S.length 34 1 (S.map u64), Res.row _ S.length 4 1 (isT S.length fun _ => none), Res.row _ S.length 31 32 (bks dgC (vvL S.length fun _ => none)), Res.row _ S.length 4 1 (agT S.length fun _ => false)] (res2 rfl (.tmp rfl) (.tmp rfl)) ⟨_, _, _, _, _, rfl, rfl, rfl⟩
            exact JA.nil
          exact JA.nil
        refine JA.alt rfl ?_ ?_
        · refine .mw rfl (.mk1 Tryd.underlying53 info_4) ?_
          rintro v29 _ _ ⟨rfl, rfl⟩
          refine kp ?_
          rw [agT_nil]
          refine JR.know (φ := ∃ A c, v29 = .slice A S.length c) (fun w hs => hs.rowSl (by repeat (first | exact List.Mem.head _ | refine List.Mem.tail _ ?_))) fun ⟨A4, c4, hs4⟩ => ?_
          subst hs4
          refine JR.alt rfl ?_ ?_
          · refine .mw rfl (Mv.buildEmpty Tryd.underlying22 sz_34) ?_
            rintro v21 _ _ ⟨rfl, rfl⟩
            refine kp ?_
            refine JR.alt rfl ?_ ?_
            · refine .mw rfl (.ap Tryd.underlying22 info_34) ?_
              rintro v23 _ _ ⟨rfl, rfl⟩
              refine kp ?_
              simp only [Nat.zero_add, List.nil_append]
              refine JR.know (φ := ∃ A c, v23 = .slice A S.length c) (fun w hs => hs.rowSl (by repeat (first | exact List.Mem.head _ | refine List.Mem.tail _ ?_))) fun ⟨A1, c1, hs1⟩ => ?_
              subst hs1
              refine JR.alt rfl ?_ ?_
              · refine .mw rfl (.mk1 Tryd.underlying53 info_4) ?_
                rintro v25 _ _ ⟨rfl, rfl⟩
                refine kp ?_
                rw [isT_nil]
                refine JR.know (φ := ∃ A c, v25 = .slice A S.length c) (fun w hs => hs.rowSl (by repeat (first | exact List.Mem.head _ | refine List.Mem.tail _ ?_))) fun ⟨A2, c2, hs2⟩ => ?_
                subst hs2
                refine .mw rfl (.mkN Tryd.underlying54 info_31 (zs := List.replicate 32 (Value.int .u8 0))) ?_
                rintro v27 _ _ ⟨rfl, rfl⟩
                refine kp ?_
                rw [vv_nil]
                refine JR.know (φ := ∃ A c, v27 = .slice A S.length c) (fun w hs => hs.rowSl (by repeat (first | exact List.Mem.head _ | refine List.Mem.tail _ ?_))) fun ⟨A3, c3, hs3⟩ => ?_
                subst hs3
                refine .uw rfl (.build bld_56 rfl rfl) ?_
                refine .mw rfl (Mv.box rfl) ?_
                rintro _ _ _ ⟨b31, rfl, rfl, rfl⟩
                refine kp ?_
                refine .uw rfl (.assign rfl) ?_
                refine .uw rfl (.assign rfl) ?_
                refine .nil (.tn (.ret ?_))
                exact .dn [] [Res.cells _ [_, _, _, _] 56, Res.row _ S.length 34 1 (S.map u64), Res.row _ S.length 4 1 (isT S.length fun _ => none), Res.row _ S.length 31 32 (bks dgC (vvL S.length fun _ => none)), Res.row _ S.length 4 1 (agT S.length fun _ => false)] (res2 rfl (.tmp rfl) (.tmp rfl)) ⟨_, _, _, _, _, rfl, rfl, rfl⟩
              refine JA.alt rfl ?_ ?_
              · refine .mw rfl (.mkN Tryd.underlying54 info_31 (zs := List.replicate 32 (Value.int .u8 0))) ?_
                rintro v27 _ _ ⟨rfl, rfl⟩
                refine kp ?_
                rw [vv_nil]
                refine JR.know (φ := ∃ A c, v27 = .slice A S.length c) (fun w hs => hs.rowSl (by repeat (first | exact List.Mem.head _ | refine List.Mem.tail _ ?_))) fun ⟨A3, c3, hs3⟩ => ?_
                subst hs3
                refine .mw rfl (.mk1 Tryd.underlying53 info_4) ?_
                rintro v25 _ _ ⟨rfl, rfl⟩
                refine kp ?_
                rw [isT_nil]
                refine JR.know (φ := ∃ A c, v25 = .slice A S.length c) (fun w hs => hs.rowSl (by repeat (first | exact List.Mem.head _ | refine List.Mem.tail _ ?_))) fun ⟨A2, c2, hs2⟩ => ?_
                subst hs2
                refine .uw rfl (.build bld_56 rfl rfl) ?_
                refine .mw rfl (Mv.box rfl) ?_
                rintro _ _ _ ⟨b31, rfl, rfl, rfl⟩
                refine kp ?_
                refine .uw rfl (.assign rfl) ?_
                refine .uw rfl (.assign rfl) ?_
                refine .nil (.tn (.ret ?_))
                exact .dn [] [Res.cells _ [_, _, _, _] 56, Res.row _ S.length 34 1 (S.map u64), Res.row _ S.length 4 1 (isT S.length fun _ => none), Res.row _ S.length 31 32 (bks dgC (vvL S.length fun _ => none)), Res.row _ S.length 4 1 (agT S.length fun _ => false)] (res2 rfl (.tmp rfl) (.tmp rfl)) ⟨_, _, _, _, _, rfl, rfl, rfl⟩
              exact JA.nil
            refine JA.alt rfl ?_ ?_
            · refine .mw rfl (.mk1 Tryd.underlying53 info_4) ?_
              rintro v25 _ _ ⟨rfl, rfl⟩
              refine kp ?_
              rw [isT_nil]
              refine JR.know (φ := ∃ A c, v25 = .slice A S.length c) (fun w hs => hs.rowSl (by repeat (first | exact List.Mem.head _ | refine List.Mem.tail _ ?_))) fun ⟨A2, c2, hs2⟩ => ?_
              subst hs2
              refine JR.alt rfl ?_ ?_
              · refine .mw rfl (.ap Tryd.underlying22 info_34) ?_
                rintro v23 _ _ ⟨rfl, rfl⟩
                refine kp ?_
                simp only [Nat.zero_add, List.nil_append]
                refine JR.know (φ := ∃ A c, v23 = .slice A S.length c) (fun w hs => hs.rowSl (by repeat (first | exact List.Mem.head _ | refine List.Mem.tail _ ?_))) fun ⟨A1, c1, hs1⟩ => ?_
                subst hs1
                refine .mw rfl (.mkN Tryd.underlying54 info_31 (zs := List.replicate 32 (Value.int .u8 0))) ?_
                rintro v27 _ _ ⟨rfl, rfl⟩
                refine kp ?_
                rw [vv_nil]
                refine JR.know (φ := ∃ A c, v27 = .slice A S.length c) (fun w hs => hs.rowSl (by repeat (first | exact List.Mem.head _ | refine List.Mem.tail _ ?_))) fun ⟨A3, c3, hs3⟩ => ?_
                subst hs3
                refine .uw rfl (.build bld_56 rfl rfl) ?_
                refine .mw rfl (Mv.box rfl) ?_
                rintro _ _ _ ⟨b31, rfl, rfl, rfl⟩
                refine kp ?_
                refine .uw rfl (.assign rfl) ?_
                refine .uw rfl (.assign rfl) ?_
                refine .nil (.tn (.ret ?_))
                exact .dn [] [Res.cells _ [_, _, _, _] 56, Res.row _ S.length 34 1 (S.map u64), Res.row _ S.length 4 1 (isT S.length fun _ => none), Res.row _ S.length 31 32 (bks dgC (vvL S.length fun _ => none)), Res.row _ S.length 4 1 (agT S.length fun _ => false)] (res2 rfl (.tmp rfl) (.tmp rfl)) ⟨_, _, _, _, _, rfl, rfl, rfl⟩
              refine JA.alt rfl ?_ ?_
              · refine .mw rfl (.mkN Tryd.underlying54 info_31 (zs := List.replicate 32 (Value.int .u8 0))) ?_
                rintro v27 _ _ ⟨rfl, rfl⟩
                refine kp ?_
                rw [vv_nil]
                refine JR.know (φ := ∃ A c, v27 = .slice A S.length c) (fun w hs => hs.rowSl (by repeat (first | exact List.Mem.head _ | refine List.Mem.tail _ ?_))) fun ⟨A3, c3, hs3⟩ => ?_
                subst hs3
                refine .mw rfl (.ap Tryd.underlying22 info_34) ?_
                rintro v23 _ _ ⟨rfl, rfl⟩
                refine kp ?_
                simp only [Nat.zero_add, List.nil_append]
                refine JR.know (φ := ∃ A c, v23 = .slice A S.length c) (fun w hs => hs.rowSl (by repeat (first | exact List.Mem.head _ | refine List.Mem.tail _ ?_))) fun ⟨A1, c1, hs1⟩ => ?_
                subst hs1
                refine .uw rfl (.build bld_56 rfl rfl) ?_
                refine .mw rfl (Mv.box rfl) ?_
                rintro _ _ _ ⟨b31, rfl, rfl, rfl⟩
                refine kp ?_
                refine .uw rfl (.assign rfl) ?_
                refine .uw rfl (.assign rfl) ?_
                refine .nil (.tn (.ret ?_))
                exact .dn [] [Res.cells _ [_, _, _, _] 56, Res.row _ S.length 34 1 (S.map u64), Res.row _ S.length 4 1 (isT S.length fun _ => none), Res.row _ S.length 31 32 (bks dgC (vvL S.length fun _ => none)), Res.row _ S.length 4 1 (agT S.length fun _ => false)] (res2 rfl (.tmp rfl) (.tmp rfl)) ⟨_, _, _, _, _, rfl, rfl, rfl⟩
              exact JA.nil
            refine JA.alt rfl ?_ ?_
            · refine .mw rfl (.mkN Tryd.underlying54 info_31 (zs := List.replicate 32 (Value.int .u8 0))) ?_
              rintro v27 _ _ ⟨rfl, rfl⟩
              refine kp ?_
              rw [vv_nil]
              refine JR.know (φ := ∃ A c, v27 = .slice A S.length c) (fun w hs => hs.rowSl (by repeat (first | exact List.Mem.head _ | refine List.Mem.tail _ ?_))) fun ⟨A3, c3, hs3⟩ => ?_
              subst hs3
              refine JR.alt rfl ?_ ?_
              · refine .mw rfl (.ap Tryd.underlying22 info_34) ?_
                rintro v23 _ _ ⟨rfl, rfl⟩
                refine kp ?_
                simp only [Nat.zero_add, List.nil_append]
                refine JR.know (φ := ∃ A c, v23 = .slice A S.length c) (fun w hs => hs.rowSl (by repeat (first | exact List.Mem.head _ | refine List.Mem.tail _ ?_))) fun ⟨A1, c1, hs1⟩ => ?_
                subst hs1
                refine .mw rfl (.mk1 Tryd.underlying53 info_4) ?_
                rintro v25 _ _ ⟨rfl, rfl⟩
                refine kp ?_
                rw [isT_nil]
                refine JR.know (φ := ∃ A c, v25 = .slice A S.length c) (fun w hs => hs.rowSl (by repeat (first | exact List.Mem.head _ | refine List.Mem.tail _ ?_))) fun ⟨A2, c2, hs2⟩ => ?_
                subst hs2
                refine .uw rfl (.build bld_56 rfl rfl) ?_
                refine .mw rfl (Mv.box rfl) ?_
                rintro _ _ _ ⟨b31, rfl, rfl, rfl⟩
                refine kp ?_
                refine .uw rfl (.assign rfl) ?_
                refine .uw rfl (.assign rfl) ?_
                refine .nil (.tn (.ret ?_))
                exact .dn [] [Res.cells _ [_, _, _, _] 56, Res.row _ S.length 34 1 (S.map u64), Res.row _ S.length 4 1 (isT S.length fun _ => none), Res.row _ S.length 31 32 (bks dgC (vvL S.length fun _ => none)), Res.row _ S.length 4 1 (agT S.length fun _ => false)] (res2 rfl (.tmp rfl) (.tmp rfl)) ⟨_, _, _, _, _, rfl, rfl, rfl⟩
              refine JA.alt rfl ?_ ?_
              · refine .mw rfl (.mk1 Tryd.underlying53 info_4) ?_
                rintro v25 _ _ ⟨rfl, rfl⟩
                refine kp ?_
                rw [isT_nil]
                refine JR.know (φ := ∃ A c, v25 = .slice A S.length c) (fun w hs => hs.rowSl (by repeat (first | exact List.Mem.head _ | refine List.Mem.tail _ ?_))) fun ⟨A2, c2, hs2⟩ => ?_
                subst hs2
                refine .mw rfl (.ap Tryd.underlying22 info_34) ?_
                rintro v23 _ _ ⟨rfl, rfl⟩
                refine kp ?_
                simp only [Nat.zero_add, List.nil_append]
                refine JR.know (φ := ∃ A c, v23 = .slice A S.length c) (fun w hs => hs.rowSl (by repeat (first | exact List.Mem.head _ | refine List.Mem.tail _ ?_))) fun ⟨A1, c1, hs1⟩ => ?_
                subst hs1
                refine .uw rfl (.build bld_56 rfl rfl) ?_
                refine .mw rfl (Mv.box rfl) ?_
                rintro _ _ _ ⟨b31, rfl, rfl, rfl⟩
                refine kp ?_
                refine .uw rfl (.assign rfl) ?_
                refine .uw rfl (.assign rfl) ?_
                refine .nil (.tn (.ret ?_))
                exact .dn [] [Res.cells _ [_, _, _, _] 56, Res.row _ S.length 34 1 (S.map u64), Res.row _ S.length 4 1 (isT S.length fun _ => none), Res.row _ S.length 31 32 (bks dgC (vvL S.length fun _ => none)), Res.row _ S.length 4 1 (agT S.length fun _ => false)] (res2 rfl (.tmp rfl) (.tmp rfl)) ⟨_, _, _, _, _, rfl, rfl, rfl⟩
              exact JA.nil
            exact JA.nil
          refine JA.alt rfl ?_ ?_
          · refine .mw rfl (.mk1 Tryd.underlying53 info_4) ?_
            rintro v25 _ _ ⟨rfl, rfl⟩
            refine kp ?_
            rw [isT_nil]
            refine JR.know (φ := ∃ A c, v25 = .slice A S.length c) (fun w hs => hs.rowSl (by repeat (first | exact List.Mem.head _ | refine List.Mem.tail _ ?_))) fun ⟨A2, c2, hs2⟩ => ?_
            subst hs2
            refine JR.alt rfl ?_ ?_
            · refine .mw rfl (Mv.buildEmpty Tryd.underlying22 sz_34) ?_
              rintro v21 _ _ ⟨rfl, rfl⟩
              refine kp ?_
              refine JR.alt rfl ?_ ?_
              · refine .mw rfl (.ap Tryd.underlying22 info_34) ?_
                rintro v23 _ _ ⟨rfl, rfl⟩
                refine kp ?_
                simp only [Nat.zero_add, List.nil_append]
                refine JR.know (φ := ∃ A c, v23 = .slice A S.length c) (fun w hs => hs.rowSl (by repeat (first | exact List.Mem.head _ | refine List.Mem.tail _ ?_))) fun ⟨A1, c1, hs1⟩ => ?_
                subst hs1
                refine .mw rfl (.mkN Tryd.underlying54 info_31 (zs := List.replicate 32 (Value.int .u8 0))) ?_
                rintro v27 _ _ ⟨rfl, rfl⟩
                refine kp ?_
                rw [vv_nil]
                refine JR.know (φ := ∃ A c, v27 = .slice A S.length c) (fun w hs => hs.rowSl (by repeat (first | exact List.Mem.head _ | refine List.Mem.tail _ ?_))) fun ⟨A3, c3, hs3⟩ => ?_
                subst hs3
                refine .uw rfl (.build bld_56 rfl rfl) ?_
                refine .mw rfl (Mv.box rfl) ?_
                rintro _ _ _ ⟨b31, rfl, rfl, rfl⟩
                refine kp ?_
                refine .uw rfl (.assign rfl) ?_
                refine .uw rfl (.assign rfl) ?_
                refine .nil (.tn (.ret ?_))
                exact .dn [] [Res.cells _ [_, _, _, _] 56, Res.row _ S.length 34 1 (S.map u64), Res.row _ S.length 4 1 (isT S.length fun _ => none), Res.row _ S.length 31 32 (bks dgC (vvL S.length fun _ => none)), Res.row _ S.length 4 1 (agT S.length fun _ => false)] (res2 rfl (.tmp rfl) (.tmp rfl)) ⟨_, _, _, _, _, rfl, rfl, rfl⟩
              refine JA.alt rfl ?_ ?_
              · refine .mw rfl (.mkN Tryd.underlying54 info_31 (zs := List.replicate 32 (Value.int .u8 0))) ?_
                rintro v27 _ _ ⟨rfl, rfl⟩
                refine kp ?_
                rw [vv_nil]
                refine JR.know (φ := ∃ A c, v27 = .slice A S.length c) (fun w hs => hs.rowSl (by repeat (first | exact List.Mem.head _ | refine List.Mem.tail _ ?_))) fun ⟨A3, c3, hs3⟩ => ?_
                subst hs3
                refine .mw rfl (.ap Tryd.underlying22 info_34) ?_
                rintro v23 _ _ ⟨rfl, rfl⟩
                refine kp ?_
                simp only [Nat.zero_add, List.nil_append]
                refine JR.know (φ := ∃ A c, v23 = .slice A S.length c) (fun w hs => hs.rowSl (by repeat (first | exact List.Mem.head _ | refine List.Mem.tail _ ?_))) fun ⟨A1, c1, hs1⟩ => ?_
                subst hs1
                refine .uw rfl (.build bld_56 rfl rfl) ?_
                refine .mw rfl (Mv.box rfl) ?_
                rintro _ _ _ ⟨b31, rfl, rfl, rfl⟩
                refine kp ?_
                refine .uw rfl (.assign rfl) ?_
                refine .uw rfl (.assign rfl) ?_
                refine .nil (.tn (.ret ?_))
                exact .dn [] [Res.cells _ [_, _, _, _] 56, Res.row _ S.length 34 1 (S.map u64), Res.row _ S.length 4 1 (isT S.length fun _ => none), Res.row _ S.length 31 32 (bks dgC (vvL S.length fun _ => none)), Res.row _ S.length 4 1 (agT S.length fun _ => false)] (res2 rfl (.tmp rfl) (.tmp rfl)) ⟨_, _, _, _, _, rfl, rfl, rfl⟩
              exact JA.nil
            refine JA.alt rfl ?_ ?_
            · refine .mw rfl (.mkN Tryd.underlying54 info_31 (zs := List.replicate 32 (Value.int .u8 0))) ?_
              rintro v27 _ _ ⟨rfl, rfl⟩
              refine kp ?_
              rw [vv_nil]
              refine JR.know (φ := ∃ A c, v27 = .slice A S.length c) (fun w hs => hs.rowSl (by repeat (first | exact List.Mem.head _ | refine List.Mem.tail _ ?_))) fun ⟨A3, c3, hs3⟩ => ?_
              subst hs3
              refine .mw rfl (Mv.buildEmpty Tryd.underlying22 sz_34) ?_
              rintro v21 _ _ ⟨rfl, rfl⟩
              refine kp ?_
              refine .mw rfl (.ap Tryd.underlying22 info_34) ?_
              rintro v23 _ _ ⟨rfl, rfl⟩
              refine kp ?_
              simp only [Nat.zero_add, List.nil_append]
              refine JR.know (φ := ∃ A c, v23 = .slice A S.length c) (fun w hs => hs.rowSl (by repeat (first | exact List.Mem.head _ | refine List.Mem.tail _ ?_))) fun ⟨A1, c1, hs1⟩ => ?_
              subst hs1
              refine .uw rfl (.build bld_56 rfl rfl) ?_
              refine .mw rfl (Mv.box rfl) ?_
              rintro _ _ _ ⟨b31, rfl, rfl, rfl⟩
              refine kp ?_
              refine .uw rfl (.assign rfl) ?_
              refine .uw rfl (.assign rfl) ?_
              refine .nil (.tn (.ret ?_))
              exact .dn [] [Res.cells _ [_, _, _, _] 56, Res.row _ S.length 34 1 (S.map u64), Res.row _ S.length 4 1 (isT S.length fun _ => none), Res.row _ S.length 31 32 (bks dgC (vvL S.length fun _ => none)), Res.row _ S.length 4 1 (agT S.length fun _ => false)] (res2 rfl (.tmp rfl) (.tmp rfl)) ⟨_, _, _, _, _, rfl, rfl, rfl⟩
            exact JA.nil
          refine JA.alt rfl ?_ ?_
          · refine .mw rfl (.mkN Tryd.underlying54 info_31 (zs := List.replicate 32 (Value.int .u8 0))) ?_
            rintro v27 _ _ ⟨rfl, rfl⟩
            refine kp ?_
            rw [vv_nil]
            refine JR.know (φ := ∃ A c, v27 = .slice A S.length c) (fun w hs => hs.rowSl (by repeat (first | exact List.Mem.head _ | refine List.Mem.tail _ ?_))) fun ⟨A3, c3, hs3⟩ => ?_
            subst hs3
            refine JR.alt rfl ?_ ?_
            · refine .mw rfl (Mv.buildEmpty Tryd.underlying22 sz_34) ?_
              rintro v21 _ _ ⟨rfl, rfl⟩
              refine kp ?_
              refine JR.alt rfl ?_ ?_
              · refine .mw rfl (.ap Tryd.underlying22 info_34) ?_
                rintro v23 _ _ ⟨rfl, rfl⟩
                refine kp ?_
                simp only [Nat.zero_add, List.nil_append]
                refine JR.know (φ := ∃ A c, v23 = .slice A S.length c) (fun w hs => hs.rowSl (by repeat (first | exact List.Mem.head _ | refine List.Mem.tail _ ?_))) fun ⟨A1, c1, hs1⟩ => ?_
                subst hs1
                refine .mw rfl (.mk1 Tryd.underlying53 info_4) ?_
                rintro v25 _ _ ⟨rfl, rfl⟩
                refine kp ?_
                rw [isT_nil]
                refine JR.know (φ := ∃ A c, v25 = .slice A S.length c) (fun w hs => hs.rowSl (by repeat (first | exact List.Mem.head _ | refine List.Mem.tail _ ?_))) fun ⟨A2, c2, hs2⟩ => ?_
                subst hs2
                refine .uw rfl (.build bld_56 rfl rfl) ?_
                refine .mw rfl (Mv.box rfl) ?_
                rintro _ _ _ ⟨b31, rfl, rfl, rfl⟩
                refine kp ?_
                refine .uw rfl (.assign rfl) ?_
                refine .uw rfl (.assign rfl) ?_
                refine .nil (.tn (.ret ?_))
                exact .dn [] [Res.cells _ [_, _, _, _] 56, Res.row _ S.length 34 1 (S.map u64), Res.row _ S.length 4 1 (isT S.length fun _ => none), Res.row _ S.length 31 32 (bks dgC (vvL S.length fun _ => none)), Res.row _ S.length 4 1 (agT S.length fun _ => false)] (res2 rfl (.tmp rfl) (.tmp rfl)) ⟨_, _, _, _, _, rfl, rfl, rfl⟩
              refine JA.alt rfl ?_ ?_
              · refine .mw rfl (.mk1 Tryd.underlying53 info_4) ?_
                rintro v25 _ _ ⟨rfl, rfl⟩
                refine kp ?_
                rw [isT_nil]
                refine JR.know (φ := ∃ A c, v25 = .slice A S.length c) (fun w hs => hs.rowSl (by repeat (first | exact List.Mem.head _ | refine List.Mem.tail _ ?_))) fun ⟨A2, c2, hs2⟩ => ?_
                subst hs2
                refine .mw rfl (.ap Tryd.underlying22 info_34) ?_
                rintro v23 _ _ ⟨rfl, rfl⟩
                refine kp ?_
                simp only [Nat.zero_add, List.nil_append]
                refine JR.know (φ := ∃ A c, v23 = .slice A S.length c) (fun w hs => hs.rowSl (by repeat (first | exact List.Mem.head _ | refine List.Mem.tail _ ?_))) fun ⟨A1, c1, hs1⟩ => ?_
                subst hs1
                refine .uw rfl (.build bld_56 rfl rfl) ?_
                refine .mw rfl (Mv.box rfl) ?_
                rintro _ _ _ ⟨b31, rfl, rfl, rfl⟩
                refine kp ?_
                refine .uw rfl (.assign rfl) ?_
                refine .uw rfl (.assign rfl) ?_
                refine .nil (.tn (.ret ?_))
                exact .dn [] [Res.cells _ [_, _, _, _] 56, Res.row _ S.length 34 1 (S.map u64), Res.row _ S.length 4 1 (isT S.length fun _ => none), Res.row _ S.length 31 32 (bks dgC (vvL S.length fun _ => none)), Res.row _ S.length 4 1 (agT S.length fun _ => false)] (res2 rfl (.tmp rfl) (.tmp rfl)) ⟨_, _, _, _, _, rfl, rfl, rfl⟩
              exact JA.nil
            refine JA.alt rfl ?_ ?_
            · refine .mw rfl (.mk1 Tryd.underlying53 info_4) ?_
              rintro v25 _ _ ⟨rfl, rfl⟩
              refine kp ?_
              rw [isT_nil]
              refine JR.know (φ := ∃ A c, v25 = .slice A S.length c) (fun w hs => hs.rowSl (by repeat (first | exact List.Mem.head _ | refine List.Mem.tail _ ?_))) fun ⟨A2, c2, hs2⟩ => ?_
              subst hs2
              refine .mw rfl (Mv.buildEmpty Tryd.underlying22 sz_34) ?_
              rintro v21 _ _ ⟨rfl, rfl⟩
              refine kp ?_
              refine .mw rfl (.ap Tryd.underlying22 info_34) ?_
              rintro v23 _ _ ⟨rfl, rfl⟩
              refine kp ?_
              simp only [Nat.zero_add, List.nil_append]
              refine JR.know (φ := ∃ A c, v23 = .slice A S.length c) (fun w hs => hs.rowSl (by repeat (first | exact List.Mem.head _ | refine List.Mem.tail _ ?_))) fun ⟨A1, c1, hs1⟩ => ?_
              subst hs1
              refine .uw rfl (.build bld_56 rfl rfl) ?_
              refine .mw rfl (Mv.box rfl) ?_
              rintro _ _ _ ⟨b31, rfl, rfl, rfl⟩
              refine kp ?_
              refine .uw rfl (.assign rfl) ?_
              refine .uw rfl (.assign rfl) ?_
              refine .nil (.tn (.ret ?_))
              exact .dn [] [Res.cells _ [_, _, _, _] 56, Res.row _ S.length 34 1 (S.map u64), Res.row _ S.length 4 1 (isT S.length fun _ => none), Res.row _ S.length 31 32 (bks dgC (vvL S.length fun _ => none)), Res.row _ S.length 4 1 (agT S.length fun _ => false)] (res2 rfl (.tmp rfl) (.tmp rfl)) ⟨_, _, _, _, _, rfl, rfl, rfl⟩
            exact JA.nil
          exact JA.nil
        exact JA.nil

theorem f23no_spec (u : Value) (S : List W64) (hbad : newE S ≠ 0) :
    Spec Tryd.prog 23 #[u] [Res.rd u S.length 1 (S.map u64)] []
      (fun r Γ' H' => r = (.tuple #[.pointer none, it (newE S)]) ∧ Γ' = [] ∧ H' = []) := by
  refine Spec.of_args Tryd.func23 rfl Tryd.ntmps23 (by simp) fun w => ?_
  refine JC.know (φ := S.length ≤ 9223372036854775807) (fun w hs => by obtain ⟨_, _, _, _, _, _, h⟩ := hs.rdForm (.head _); unfold maxLen at h; omega) fun hln => ?_
  refine .seq (.region ?_)
  refine .w (.assign rfl) ?_
  refine .w (.assign rfl) ?_
  refine .nil (.tn (.seq (.seq (.region ?_))))
  refine .w (.move rfl) ?_
  refine .w (.len Tryd.underlying22 rfl) ?_
  refine .w (.bin rfl rfl BinR.lss_i) ?_
  refine .w (.move rfl) ?_
  refine .join 4 13 (.bool (decide (S.length < 1 ∨ 40 < S.length))) ?_ ?_
  · refine .gn (g := 8) rfl (fun hg7 hg7' => ?_) (fun hg7 hg7' => ?_)
    · refine .gf (g := 9) rfl rfl hg7 (by decide) ?_
      refine .gf (g := 9) rfl rfl hg7 (by decide) ?_
      refine .gf (g := 9) rfl rfl hg7 (by decide) ?_
      refine .w (.pick1 rfl hg7 rfl) ?_
      refine .nil ?_
      refine .head () (by first | (refine ⟨by first | rfl | exact congrArg (fun b => some (Value.bool b)) (by first | exact (decide_eq_true (by omega)).symm | exact (decide_eq_false (by omega)).symm | exact decide_eq_decide.2 (by omega)) | (simp [*]; done) | (show some _ = some _; simp [*]; done), ?_⟩; repeat (first | exact trivial | refine ⟨rfl, ?_⟩))) (fun _ h => h) (Picks.perm (by repeat (first | exact Picks.nil _ | apply Picks.cons | exact Pull.here _ _ | apply Pull.there))) ?_
      trivial
    · refine .gt (g := 9) rfl rfl hg7 ?_
      refine .w (.move rfl) ?_
      refine .gt (g := 9) rfl rfl hg7 ?_
      refine .w (.len Tryd.underlying22 rfl) ?_
      refine .gt (g := 9) rfl rfl hg7 ?_
      refine .w (.bin rfl rfl BinR.gtr_i) ?_
      refine .w (.pick0 rfl hg7 rfl) ?_
      refine .nil ?_
      refine .head () (by first | (refine ⟨by first | rfl | exact congrArg (fun b => some (Value.bool b)) (by first | exact (decide_eq_true (by omega)).symm | exact (decide_eq_false (by omega)).symm | exact decide_eq_decide.2 (by omega)) | (simp [*]; done) | (show some _ = some _; simp [*]; done), ?_⟩; repeat (first | exact trivial | refine ⟨rfl, ?_⟩))) (fun _ h => h) (Picks.perm (by repeat (first | exact Picks.nil _ | apply Picks.cons | exact Pull.here _ _ | apply Pull.there))) ?_
      trivial
  · refine .nil (.tn ?_)
    refine .cn rfl (fun hc1 => ?_) (fun hc1 => ?_)
    · have hE : newE S = 2 := if_pos hc1
      refine .seq (.region ?_)
      refine .w (.assign rfl) ?_
      refine .w (.assign rfl) ?_
      refine .nil (.tn (.ret (.then_ret ?_)))
      exact .dn [] [] (res2 rfl (.tmp rfl) (.tmp rfl)) ⟨by rw [hE], rfl, rfl⟩
    · have hR : newR S = newE S := by rw [newR_eq, newE, if_neg (by omega), if_neg hc1]
      refine .skip (.tn (.seq (.region ?_)))
      refine .w (.move rfl) ?_
      refine .c (f41_spec u S) body_41 ?_
      refine .w (.assign rfl) ?_
      refine .nil (.tn (.seq (.seq (.region ?_))))
      refine .w (.move rfl) ?_
      refine .w (.bin rfl rfl BinR.neq_i) ?_
      refine .nil (.tn ?_)
      refine .cn rfl (fun hc2 => ?_) (fun hc2 => ?_)
      · have hE : newE S = newR S := hR.symm
        refine .seq (.region ?_)
        refine .w (.move rfl) ?_
        refine .w (.assign rfl) ?_
        refine .w (.assign rfl) ?_
        refine .nil (.tn (.ret (.then_ret ?_)))
        exact .dn [] [] (res2 rfl (.tmp rfl) (.tmp rfl)) ⟨by rw [hE], rfl, rfl⟩
      · exact absurd (by rw [← hR]; omega) hbad
end Go.Proofs.YtmbpngnamnoiaaaDoor
