/- Walk: Add. -/
import Derived.Test.YtffgimlkmfjgmaaP3
namespace Go.Proofs.Ytffgimlkmfjgmaa
open Go.RowKit
set_option maxRecDepth 100000
set_option linter.unusedVariables false
set_option linter.unusedSimpArgs false
theorem f12_spec (p : Nat) (wv mv : Value) (m : MM B8 Bool) (hm : DnOk mv m) (A : Pcs) (hA : A.length ≤ 100000) (u : Value) (b : B8) :
    Spec Try.prog 12 #[(ptr p 0), u] [Res.all (pcRes A), Res.rd u b.length 1 (b.map u8)] [Res.cells p [wv, mv] 39, dnR mv m, Res.row wv A.length 24 1 (A.map Prod.fst)]
      (fun r Γ' H' => ∃ wv' N, bytesP N = (addN (bytesP A) (wasB m) b) ∧ r = it (addE (bytesP A) (wasB m) b) ∧ Γ' = [] ∧ H' = [Res.cells p [wv', mv] 39, dnR mv m, Res.row wv' (A ++ N).length 24 1 ((A ++ N).map Prod.fst), Res.sep (rowsP N 5)]) := by
  refine Spec.of_args Try.func12 rfl Try.ntmps12 (by simp) fun w => ?_
  refine JC.know (φ := u.oneCell' = true) (fun w hs => by obtain ⟨A, c, rfl, _⟩ := hs.rdForm (.tail _ (.head _)); rfl) fun hu => ?_
  refine .seq (.region ?_)
  refine .w (.assign rfl) ?_
  refine .nil (.tn (.seq (.block (.seq (.region ?_)))))
  refine .w (.move rfl) ?_
  refine .c (f25_spec u b) body_25 ?_
  refine .w (.not rfl) ?_
  refine .w (.assign rfl) ?_
  refine .nil (.tn ?_)
  refine .cn rfl (fun hc1 => ?_) (fun hc1 => ?_)
  · refine .seq (.region ?_)
    refine .w (.assign rfl) ?_
    refine .nil (.tn (.ret (.block_ret (.then_ret ?_))))
    have he : (addE (bytesP A) (wasB m) b) = 2 := by rw [addE, if_pos hc1]
    refine .sp0 ?_
    exact .dn [] [Res.cells p [wv, mv] 39, dnR mv m, Res.row wv A.length 24 1 (A.map Prod.fst), Res.sep []] (res1 rfl (.tmp rfl)) ⟨wv, [], (by rw [addN_0 he (by decide)]; rfl), (by rw [he]), rfl, (by rw [List.append_nil]; rfl)⟩
  · refine .seq ?_
    refine JC.draw (.one 0 (.one 1 (.one 2 (.one 3 (.one 4 (.one 5 (.one 6 (.one 7 (.one 8 (.one 9 (.one 10 (.one 11 (.one 12 .nil))))))))))))) (fun i => ([10] : List Nat).contains i) (fun i => ([2, 9, 10] : List Nat).contains i) (fun i => ([0, 1, 3, 4, 5, 6, 8, 11, 12] : List Nat).contains i) mixed (by kernel_rfl) (by decide) (by kernel_rfl) ?_
    refine .uw rfl (.move rfl) ?_
    refine .uw rfl (.move rfl) ?_
    refine .mw rfl (.c (f15A_spec p wv mv m hm u b) body_15) ?_
    rintro _ _ _ ⟨rfl, rfl, rfl⟩
    refine kp ?_
    refine .uw rfl (.move rfl) ?_
    refine JR.gsplit (g := 12) rfl (fun hg11 => ?_) (fun hg11 => ?_)
    · have hg11' := hg11
      try simp only [decide_eq_true_eq, decide_eq_false_iff_not, Bool.not_eq_true', Bool.not_eq_false', ne_eq, Decidable.not_not, Bool.not_eq_true, Bool.and_eq_true, Bool.or_eq_true, BitVec.reduceToNat] at hg11'
      refine JR.gf (g := 13) rfl rfl rfl rfl hg11 (by decide) ?_
      refine JR.gf (g := 13) rfl rfl rfl rfl hg11 (by decide) ?_
      refine JR.gf (g := 13) rfl rfl rfl rfl hg11 (by decide) ?_
      refine JR.gf (g := 13) rfl rfl rfl rfl hg11 (by decide) ?_
      refine JR.gf (g := 13) rfl rfl rfl rfl hg11 (by decide) ?_
      refine JR.gfm (g := 13) rfl rfl rfl rfl hg11 (by decide) ?_ ?_
      · exact ⟨Subs.sub (by repeat (first | exact Subs.nil _ | apply Subs.cons | exact List.Mem.head _ | refine List.Mem.tail _ ?_)), .inr (St.keep (by repeat (first | exact Subs.nil _ | apply Subs.cons | exact List.Mem.head _ | refine List.Mem.tail _ ?_)) (by repeat (first | exact Picks.nil _ | apply Picks.cons | exact Pull.here _ _ | apply Pull.there)))⟩
      refine JR.gfm (g := 13) rfl rfl rfl rfl hg11 (by decide) ?_ ?_
      · exact ⟨Subs.sub (by repeat (first | exact Subs.nil _ | apply Subs.cons | exact List.Mem.head _ | refine List.Mem.tail _ ?_)), .inl rfl⟩
      refine JR.u rfl rfl rfl (Yv.pick1 rfl hg11 rfl) (by decide) ?_
      refine .uw rfl (.assign rfl) ?_
      refine .nil (.tn ?_)
      refine .k1 rfl rfl ?_
      refine .seq (.region ?_)
      refine .w (.assign rfl) ?_
      refine .nil (.tn (.ret (.block_ret (.then_ret ?_))))
      have he : (addE (bytesP A) (wasB m) b) = 13 := by rw [addE, if_neg (by simp [hc1]), if_pos (by simp [hg11'])]
      refine .sp0 ?_
      exact .dn [] [Res.cells p [wv, mv] 39, dnR mv m, Res.row wv A.length 24 1 (A.map Prod.fst), Res.sep []] (res1 rfl (.tmp rfl)) ⟨wv, [], (by rw [addN_0 he (by decide)]; rfl), (by rw [he]), rfl, (by rw [List.append_nil]; rfl)⟩
    · have hg11' := hg11
      try simp only [decide_eq_true_eq, decide_eq_false_iff_not, Bool.not_eq_true', Bool.not_eq_false', ne_eq, Decidable.not_not, Bool.not_eq_true, Bool.and_eq_true, Bool.or_eq_true, BitVec.reduceToNat] at hg11'
      refine JR.ugt (g := 13) rfl rfl rfl rfl rfl hg11 (.move rfl) (by decide) ?_
      refine JR.ugt (g := 13) rfl rfl rfl rfl rfl hg11 (.nilCheck rfl) (by decide) ?_
      refine JR.ugt (g := 13) rfl rfl rfl rfl rfl hg11 (.fieldAddr fa_39_0 rfl) (by decide) ?_
      refine JR.vgt (g := 13) rfl rfl rfl rfl rfl hg11 (.ld one_23 rfl) (by decide) ?_
      refine JR.ugt (g := 13) rfl rfl rfl rfl rfl hg11 (.move rfl) (by decide) ?_
      refine JR.mgt (g := 13) rfl rfl rfl rfl hg11 (.cb (f34_spec u hu) body_34 (h0 := by rintro _ _ _ ⟨_, _, h, _⟩; exact h)) (by decide) ?_
      rintro _ _ _ ⟨_, ⟨q, rfl, _, rfl⟩, hΓ, hH⟩
      simp only [List.cons_append, List.nil_append] at hH; subst hΓ hH
      refine kp ?_
      refine JR.mgt (g := 13) rfl rfl rfl rfl hg11 (.c (f23Is_spec wv A q u b) body_23) (by decide) ?_
      rintro _ _ _ ⟨rfl, rfl, rfl⟩
      refine kp ?_
      refine JR.u rfl rfl rfl (Yv.pick0 rfl hg11 rfl) (by decide) ?_
      refine .uw rfl (.assign rfl) ?_
      refine .nil (.tn ?_)
      refine .cn rfl (fun hc2 => ?_) (fun hc2 => ?_)
      · refine .seq (.region ?_)
        refine .w (.assign rfl) ?_
        refine .nil (.tn (.ret (.block_ret (.then_ret ?_))))
        have he : (addE (bytesP A) (wasB m) b) = 13 := by rw [addE, if_neg (by simp [hc1]), if_pos (by simp [hc2])]
        refine .sp0 ?_
        exact .dn [] [Res.cells p [wv, mv] 39, dnR mv m, Res.row wv A.length 24 1 (A.map Prod.fst), Res.sep []] (res1 rfl (.tmp rfl)) ⟨wv, [], (by rw [addN_0 he (by decide)]; rfl), (by rw [he]), rfl, (by rw [List.append_nil]; rfl)⟩
      · refine .seq (.region ?_)
        refine .w (.move rfl) ?_
        refine .w (.nilCheck rfl) ?_
        refine .w (.fieldAddr fa_39_0 rfl) ?_
        refine .w (.ld one_23 rfl) ?_
        refine .w (.len Try.underlying23 rfl) ?_
        refine .w (.bin rfl rfl BinR.geq_i) ?_
        refine .w (.assign rfl) ?_
        refine .nil (.tn ?_)
        refine .cn rfl (fun hc3 => ?_) (fun hc3 => ?_)
        · refine .seq (.region ?_)
          refine .w (.assign rfl) ?_
          refine .nil (.tn (.ret (.block_ret (.then_ret ?_))))
          have he : (addE (bytesP A) (wasB m) b) = 52 := by rw [addE, if_neg (by simp [hc1]), if_neg (by simp [hg11', hc2]), if_pos (by rw [bytesP_len]; omega)]
          refine .sp0 ?_
          exact .dn [] [Res.cells p [wv, mv] 39, dnR mv m, Res.row wv A.length 24 1 (A.map Prod.fst), Res.sep []] (res1 rfl (.tmp rfl)) ⟨wv, [], (by rw [addN_0 he (by decide)]; rfl), (by rw [he]), rfl, (by rw [List.append_nil]; rfl)⟩
        · refine .skip (.block_normal (.tn (.seq ?_)))
          refine JC.draw (.one 0 (.one 1 (.one 2 (.one 3 (.one 4 (.one 5 (.one 6 (.one 7 (.one 8 (.one 9 (.one 10 (.one 11 .nil)))))))))))) (fun i => ([8, 11] : List Nat).contains i) (fun i => ([6, 7, 8, 11] : List Nat).contains i) (fun i => ([0, 1, 2, 3, 5, 9, 10] : List Nat).contains i) mixed (by kernel_rfl) (by decide) (by kernel_rfl) ?_
          refine .uw rfl (.move rfl) ?_
          refine .uw rfl (.move rfl) ?_
          refine .uw rfl (.nilCheck rfl) ?_
          refine .uw rfl (.fieldAddr fa_39_0 rfl) ?_
          refine .w rfl (.ld one_23 rfl) ?_
          refine .uw rfl (.move rfl) ?_
          refine .mw rfl (.cb (f35_spec u b.length (b.map u8) (by have := fit_le hc1; omega) one_u8s) body_35) ?_
          rintro v35 _ _ ⟨_, ⟨_, _, rfl⟩, hΓ, hH⟩
          simp only [List.cons_append, List.nil_append] at hH; subst hΓ hH
          refine kp ?_
          refine JR.know (φ := v35.oneCell' = true) (fun w hs => (by obtain ⟨A, c, rfl, _⟩ := row_rd (by decide) (Res.row_ok.1 (hs.hok _ (.head _))); rfl)) fun hv35 => ?_
          refine .mw rfl (Mv.lit1 Try.underlying23 info_24 rfl rfl (one_sing hv35) (by decide) (by decide)) ?_
          rintro v36 _ _ ⟨rfl, rfl⟩
          refine kp ?_
          refine .mw rfl (.ap Try.underlying23 info_24 (hone := (one_sing hv35))) ?_
          rintro v37 _ _ ⟨rfl, rfl⟩
          refine kp ?_
          rw [snoc_row (b := b)]
          refine .uw rfl (.nilCheck rfl) ?_
          refine .uw rfl (.fieldAddr fa_39_0 rfl) ?_
          first | refine .mw0 rfl (.s1 sz_23) ?_ | refine .mw0 rfl (.s1s sz_23) ?_ | refine .mw0 rfl (.sr1 sz_23) ?_
          rintro _ _ _ ⟨rfl, rfl⟩
          refine kp ?_
          refine .nil (.tn (.seq (.region ?_)))
          refine .w (.assign rfl) ?_
          refine .nil (.tn (.ret ?_))
          have he : (addE (bytesP A) (wasB m) b) = 0 := by rw [addE, if_neg (by simp [hc1]), if_neg (by simp [hg11', hc2]), if_neg (by rw [bytesP_len]; omega)]
          refine .sp0 ?_
          refine .rs (A := [Res.row v35 b.length 5 1 (b.map u8)]) (B := []) (L := rowsP [(v35, b)] 5) (by simp [rowsP]) ?_
          exact .dn [] [Res.cells p [v37, mv] 39, dnR mv m, Res.row v37 (A ++ [(v35, b)]).length 24 1 ((A ++ [(v35, b)]).map Prod.fst), Res.sep (rowsP [(v35, b)] 5)] (res1 rfl (.tmp rfl)) ⟨v37, [(v35, b)], (by rw [addN, if_pos he]; rfl), (by rw [he]), rfl, rfl⟩
end Go.Proofs.Ytffgimlkmfjgmaa
