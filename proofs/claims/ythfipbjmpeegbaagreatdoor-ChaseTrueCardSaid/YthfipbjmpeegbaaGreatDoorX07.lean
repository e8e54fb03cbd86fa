/- Texts of ours, gathered: P1. -/
import Derived.Test.YthfipbjmpeegbaaGreatDoorX06
/- Walks: blocks. -/
namespace Go.Proofs.YthfipbjmpeegbaaGreatDoor
open Go.RowKit
set_option maxRecDepth 100000
set_option linter.unusedVariables false
set_option linter.unusedSimpArgs false
theorem f13_spec (u v : Value) (a b : Pcs) :
    Spec Tryz.prog 13 #[u, v] [Res.rd u a.length 1 (a.map Prod.fst), Res.rd v b.length 1 (b.map Prod.fst), Res.all (pcRes a), Res.all (pcRes b)] []
      (fun r Γ' H' => r = .bool (decide (bytesP a = bytesP b)) ∧ Γ' = [] ∧ H' = []) := by
  refine Spec.of_args Tryz.func13 rfl Tryz.ntmps13 (by simp) fun w => ?_
  refine JC.know (φ := a.length ≤ 9223372036854775807) (fun w hs => by obtain ⟨_, _, _, _, _, _, h⟩ := hs.rdForm (.head _); unfold maxLen at h; omega) fun hla => ?_
  refine JC.know (φ := b.length ≤ 9223372036854775807) (fun w hs => by obtain ⟨_, _, _, _, _, _, h⟩ := hs.rdForm (.tail _ (.head _)); unfold maxLen at h; omega) fun hlb => ?_
  refine .seq (.region ?_)
  refine .w (.assign rfl) ?_
  refine .nil (.tn (.seq (.seq (.region ?_))))
  refine .w (.move rfl) ?_
  refine .w (.len Tryz.underlying35 rfl) ?_
  refine .w (.move rfl) ?_
  refine .w (.len Tryz.underlying35 rfl) ?_
  refine .w (.bin rfl rfl BinR.neq_i) ?_
  refine .nil (.tn ?_)
  refine .cn rfl (fun hc1 => ?_) (fun hc1 => ?_)
  · refine .seq (.region ?_)
    refine .w (.assign rfl) ?_
    refine .nil (.tn (.ret (.then_ret ?_)))
    exact .dn [] [] (res1 rfl (.tmp rfl)) ⟨congrArg Value.bool (decide_eq_false (fun h => hc1 (by have := congrArg List.length h; rw [bytesP_len, bytesP_len] at this; rw [this]))).symm, rfl, rfl⟩
  · have hab : a.length = b.length := by omega
    refine .skip (.tn (.seq (.seq (.region ?_))))
    refine .w (.assign rfl) ?_
    refine .nil (.tn (.block ?_))
    refine .lp (ι := Nat) (fun x => x ≤ a.length ∧ bytesP (a.take x) = bytesP (b.take x)) (fun T x => (5, it (x : Int)) :: T) (fun T _ => T) (fun T _ => T) (fun x => a.length - x) 0 [0, 1] ?_ (fun x hx => ?_)
    · exact ⟨Nat.zero_le _, rfl⟩
    obtain ⟨hx1, hx2⟩ := hx
    refine .seq (.seq (.region ?_))
    refine .w (.move rfl) ?_
    refine .w (.move rfl) ?_
    refine .w (.len Tryz.underlying35 rfl) ?_
    refine .w (.bin rfl rfl BinR.lss_i) ?_
    refine .nil (.tn ?_)
    refine .cn rfl (fun hc2 => ?_) (fun hc2 => ?_)
    · refine .skip (.tn (.seq (.block (.seq ?_))))
      refine JC.draw (.one 0 (.one 1 (.one 2 (.one 3 (.one 4 (.one 5 (.one 6 (.one 7 (.one 8 (.one 9 .nil)))))))))) (fun i => ([8] : List Nat).contains i) (fun i => ([8] : List Nat).contains i) (fun i => ([0, 1, 2, 4, 5, 6, 9] : List Nat).contains i) mixed (by kernel_rfl) (by decide) (by kernel_rfl) ?_
      refine JR.open (r := Res.rd (pcAt a x).1 (pcAt a x).2.length 1 ((pcAt a x).2.map u8)) zqa (pc_res (by omega)) ?_
      refine JR.open (r := Res.rd (pcAt b x).1 (pcAt b x).2.length 1 ((pcAt b x).2.map u8)) zqa (pc_res (by omega)) ?_
      refine .uw rfl (.move rfl) ?_
      refine .uw rfl (.move rfl) ?_
      refine .uw rfl (.ix1 Tryz.underlying35 sz_23 rfl rfl) ?_
      refine .w rfl (.ld one_23 rfl (hj := by first | exact pc_get (by omega) | rfl | exact tab_get zqg | exact gm (d := 0) zqg)) ?_
      refine .uw rfl (.move rfl) ?_
      refine .uw rfl (.move rfl) ?_
      refine .uw rfl (.ix1 Tryz.underlying35 sz_23 rfl rfl) ?_
      refine .w rfl (.ld one_23 rfl (hj := by first | exact pc_get (by omega) | rfl | exact tab_get zqg | exact gm (d := 0) zqg)) ?_
      refine .mw rfl (.c (f14_spec _ _ (pcAt a x).2 (pcAt b x).2) body_14) ?_
      rintro _ _ _ ⟨rfl, rfl, rfl⟩
      refine kp ?_
      refine .uw rfl (.not rfl) ?_
      refine .nil (.tn ?_)
      refine .cn rfl (fun hc3 => ?_) (fun hc3 => ?_)
      · refine .seq (.region ?_)
        refine .w (.assign rfl) ?_
        refine .nil (.tn (.ret (.block_ret (.then_ret (.then_ret (.block_ret (.then_ret ?_)))))))
        exact .dn [] [] (res1 rfl (.tmp rfl)) ⟨congrArg Value.bool (decide_eq_false (fun h => hc3 (pcAt_of h))).symm, rfl, rfl⟩
      · refine .skip (.block_normal (.tn (.region ?_)))
        refine .w (.move rfl) ?_
        refine .w (.bin rfl rfl (BinR.add_i zqf)) ?_
        refine .w (.assign rfl) ?_
        refine .nil ?_
        have hx3 : bytesP (a.take (x + 1)) = bytesP (b.take (x + 1)) := by rw [take_snocP (by omega), take_snocP (by omega), hx2, hc3]
        refine .hd (x + 1) ?_
        exact ⟨⟨by omega, hx3⟩, by omega⟩
    · have he : x = a.length := by omega
      subst he
      rw [List.take_length, hab, List.take_length] at hx2
      refine .exit (.then_exit (.then_exit (.block_exit (.tn (.seq (.region ?_))))))
      refine .w (.assign rfl) ?_
      refine .nil (.tn (.ret ?_))
      exact .dn [] [] (res1 rfl (.tmp rfl)) ⟨congrArg Value.bool (decide_eq_true hx2).symm, rfl, rfl⟩

theorem f68_spec (u v : Value) (a b : B8) :
    Spec Tryz.prog 68 #[u, v] [Res.rd u a.length 1 (a.map u8), Res.rd v b.length 1 (b.map u8)] []
      (fun r Γ' H' => r = .bool (decide (a = b)) ∧ Γ' = [] ∧ H' = []) := by
  refine Spec.of_args Tryz.func68 rfl Tryz.ntmps68 (by simp) fun w => ?_
  refine .seq (.region ?_)
  refine .w (.assign rfl) ?_
  refine .nil (.tn (.seq (.region ?_)))
  refine .w (.move rfl) ?_
  refine .w (.conv_str Tryz.underlying23 Tryz.underlying5 Tryz.underlying9 rfl rfl zqc) ?_
  refine .w (.move rfl) ?_
  refine .w (.conv_str Tryz.underlying23 Tryz.underlying5 Tryz.underlying9 rfl rfl zqc) ?_
  refine .w (.bin rfl rfl (BinR.eql_str _ _)) ?_
  refine .w (.assign rfl) ?_
  refine .nil (.tn (.ret ?_))
  exact .dn [] [] (res1 rfl (.tmp rfl)) ⟨rfl, rfl, rfl⟩

theorem f67_spec (q : Nat) (tv : Value) (b : B8) (u : Value) (c : B8) :
    Spec Tryz.prog 67 #[u, (ptr q 0)] [Res.cells q [tv] 23, Res.rd tv b.length 1 (b.map u8), Res.rd u c.length 1 (c.map u8)] []
      (fun r Γ' H' => r = .bool (decide (b = c)) ∧ Γ' = [] ∧ H' = []) := by
  refine Spec.of_args Tryz.func67 rfl Tryz.ntmps67 (by simp) fun w => ?_
  refine .seq (.region ?_)
  refine .w (.assign rfl) ?_
  refine .nil (.tn (.seq (.region ?_)))
  refine .w (.ld one_23 rfl) ?_
  refine .w (.move rfl) ?_
  refine .c (f68_spec tv u b c) body_68 ?_
  refine .w (.assign rfl) ?_
  refine .nil (.tn (.ret ?_))
  exact .dn [] [] (res1 rfl (.tmp rfl)) ⟨rfl, rfl, rfl⟩

theorem f47_spec (u : Value) (hu : u.oneCell' = true) :
    Spec Tryz.prog 47 #[u] [] []
      (fun r Γ' H' => ∃ q, r = .func (.func 67) #[] #[ptr q 0] ∧ Γ' = [] ∧ H' = [Res.cells q [u] 23]) := by
  refine Spec.of_args Tryz.func47 rfl Tryz.ntmps47 (by simp) fun w => ?_
  refine .seq (.region ?_)
  refine .bx fun b1 => ?_
  rw [show u.cells.toList = [u] from congrArg Array.toList (one_cells hu)]
  refine .w (.assign rfl) ?_
  refine .nil (.tn (.seq (.region ?_)))
  refine .w (.makeFunc rfl rfl) ?_
  refine .w (.assign rfl) ?_
  refine .nil (.tn (.ret ?_))
  exact .dn [] [Res.cells b1 [u] 23] (res1 rfl (.tmp rfl)) ⟨_, rfl, rfl, rfl⟩

theorem f66Is_spec (u : Value) (A : Pcs) (q : Nat) (tv : Value) (b : B8) :
    Spec Tryz.prog 66 #[u, (.func (.func 67) #[] #[ptr q 0])] [Res.rd u A.length 1 (A.map Prod.fst), Res.all (pcRes A), Res.cells q [tv] 23, Res.rd tv b.length 1 (b.map u8)] []
      (fun r Γ' H' => r = (it (ixP (isB b) A)) ∧ Γ' = [] ∧ H' = []) := by
  refine Spec.of_args Tryz.func66 rfl Tryz.ntmps66 (by simp) fun w => ?_
  refine JC.know (φ := A.length ≤ 9223372036854775807) (fun w hs => by obtain ⟨_, _, _, _, _, _, h⟩ := hs.rdForm (.head _); unfold maxLen at h; omega) fun hla => ?_
  refine .seq (.region ?_)
  refine .w (.assign rfl) ?_
  refine .nil (.tn (.seq (.seq (.region ?_))))
  refine .w (.move rfl) ?_
  refine .w (.len Tryz.underlying35 rfl) ?_
  refine .w (.move rfl) ?_
  refine .nil (.tn (.block ?_))
  refine .lp (ι := Nat) (fun x => x ≤ A.length ∧ ∀ j, j < x → (isB b) (pcAt A j).2 = false) (fun T x => (8, it (x : Int)) :: T) (fun T _ => T) (fun T _ => T) (fun x => A.length - x) 0 [0, 1, 7] ?_ (fun x hx => ?_)
  · exact ⟨Nat.zero_le _, fun j hj => absurd hj (Nat.not_lt_zero _)⟩
  obtain ⟨hx, hn⟩ := hx
  refine .seq (.region ?_)
  refine .w (.bin rfl rfl BinR.lss_i) ?_
  refine .nil (.tn (.seq ?_))
  refine .cn rfl (fun hc1 => ?_) (fun hc1 => ?_)
  · refine .skip (.tn (.seq (.block (.seq (.region ?_)))))
    refine .w (.move rfl) ?_
    refine .w (.assign rfl) ?_
    refine .nil (.tn (.seq (.region ?_)))
    refine .w (.move rfl) ?_
    refine .w (.move rfl) ?_
    refine .w (.move rfl) ?_
    refine .w (.ix1 Tryz.underlying35 sz_23 rfl rfl) ?_
    refine JO.open (r := Res.rd (pcAt A x).1 (pcAt A x).2.length 1 ((pcAt A x).2.map u8)) zqa (pc_res (by omega)) ?_
    refine .w (.ld one_23 rfl (hj := by first | exact pc_get (by omega) | rfl | exact tab_get zqg | exact gm (d := 0) zqg)) ?_
    refine JO.callF (f67_spec q tv b (pcAt A x).1 (pcAt A x).2) body_67 rfl rfl rfl zqd (by repeat (first | exact Lends.nil _ | apply Lends.cons | exact Lend.same _ _ | exact Lend.row _ _ _ _ _ _ (by decide) | apply Lend.there)) (by rintro _ _ _ ⟨_, h, _⟩; exact h) (by decide) ?_
    rintro _ _ ⟨_, ⟨rfl, _, rfl⟩, hH⟩
    simp only [List.cons_append, List.nil_append] at hH; subst hH
    refine .nil (.tn ?_)
    refine .cn rfl (fun hc2 => ?_) (fun hc2 => ?_)
    · refine .seq (.region ?_)
      refine .w (.move rfl) ?_
      refine .w (.as (v' := it (ixP (isB b) A)) (.assign rfl) (congrArg it (ix_hit (by omega) (by first | exact hc2 | exact decide_eq_true hc2 | simpa using hc2) hn).symm)) ?_
      refine .nil (.tn (.ret (.block_ret (.then_ret (.then_ret (.block_ret (.then_ret ?_)))))))
      exact .dn [] [] (res1 rfl (.tmp rfl)) ⟨rfl, rfl, rfl⟩
    · refine .skip (.block_normal (.tn (.region ?_)))
      refine .w (.bin rfl rfl (BinR.add_i zqf)) ?_
      refine .w (.move rfl) ?_
      refine .nil ?_
      have hn2 : ∀ j, j < x + 1 → (isB b) (pcAt A j).2 = false := fun j hj => (by
        rcases Nat.lt_succ_iff_lt_or_eq.1 hj with h1 | rfl
        · exact hn j h1
        · first | exact hc2 | exact decide_eq_false hc2 | simpa using hc2)
      refine .hd (x + 1) ?_
      exact ⟨⟨by omega, hn2⟩, by omega⟩
  · obtain rfl : x = A.length := by omega
    refine .exit (.then_exit (.then_exit (.block_exit (.tn (.seq (.region ?_))))))
    refine .w (.as (v' := it (ixP (isB b) A)) (.assign rfl) (congrArg it (ix_none hn).symm)) ?_
    refine .nil (.tn (.ret ?_))
    exact .dn [] [] (res1 rfl (.tmp rfl)) ⟨rfl, rfl, rfl⟩

theorem f46Is_spec (u : Value) (A : Pcs) (q : Nat) (tv : Value) (b : B8) :
    Spec Tryz.prog 46 #[u, (.func (.func 67) #[] #[ptr q 0])] [Res.rd u A.length 1 (A.map Prod.fst), Res.all (pcRes A), Res.cells q [tv] 23, Res.rd tv b.length 1 (b.map u8)] []
      (fun r Γ' H' => r = (.bool (hasP (isB b) (bytesP A))) ∧ Γ' = [] ∧ H' = []) := by
  refine Spec.of_args Tryz.func46 rfl Tryz.ntmps46 (by simp) fun w => ?_
  refine .seq (.region ?_)
  refine .w (.assign rfl) ?_
  refine .nil (.tn (.seq (.region ?_)))
  refine .w (.move rfl) ?_
  refine .w (.move rfl) ?_
  refine .c (f66Is_spec u A q tv b) body_66 ?_
  refine .w (.as (v' := .bool (hasP (isB b) (bytesP A))) (.bin rfl rfl BinR.geq_i) (congrArg Value.bool (ix_has _ _))) ?_
  refine .w (.assign rfl) ?_
  refine .nil (.tn (.ret ?_))
  exact .dn [] [] (res1 rfl (.tmp rfl)) ⟨rfl, rfl, rfl⟩

theorem f61_spec (u v : Value) (A : Pcs) (b : B8) :
    Spec Tryz.prog 61 #[u, v] [Res.rd u A.length 1 (A.map Prod.fst), Res.all (pcRes A), Res.rd v b.length 1 (b.map u8)] []
      (fun r Γ' H' => r = .bool (decide (b ∈ bytesP A)) ∧ Γ' = [] ∧ H' = []) := by
  refine Spec.of_args Tryz.func61 rfl Tryz.ntmps61 (by simp) fun w => ?_
  refine JC.know (φ := A.length ≤ 9223372036854775807) (fun w hs => by obtain ⟨_, _, _, _, _, _, h⟩ := hs.rdForm (.head _); unfold maxLen at h; omega) fun hla => ?_
  refine .seq (.region ?_)
  refine .w (.assign rfl) ?_
  refine .nil (.tn (.seq (.seq (.region ?_))))
  refine .w (.assign rfl) ?_
  refine .nil (.tn (.block ?_))
  refine .lp (ι := Nat) (fun x => x ≤ A.length ∧ b ∉ (bytesP A).take x) (fun T x => (5, it (x : Int)) :: T) (fun T _ => T) (fun T _ => T) (fun x => A.length - x) 0 [0, 1] ?_ (fun x hx => ?_)
  · exact ⟨Nat.zero_le _, by simp⟩
  obtain ⟨hx, hn⟩ := hx
  refine .seq (.seq (.region ?_))
  refine .w (.move rfl) ?_
  refine .w (.move rfl) ?_
  refine .w (.len Tryz.underlying35 rfl) ?_
  refine .w (.bin rfl rfl BinR.lss_i) ?_
  refine .nil (.tn ?_)
  refine .cn rfl (fun hc1 => ?_) (fun hc1 => ?_)
  · refine .skip (.tn (.seq (.block (.seq (.region ?_)))))
    refine .w (.move rfl) ?_
    refine .w (.move rfl) ?_
    refine .w (.ix1 Tryz.underlying35 sz_23 rfl rfl) ?_
    refine JO.open (r := Res.rd (pcAt A x).1 (pcAt A x).2.length 1 ((pcAt A x).2.map u8)) zqa (pc_res (by omega)) ?_
    refine .w (.ld one_23 rfl (hj := by first | exact pc_get (by omega) | rfl | exact tab_get zqg | exact gm (d := 0) zqg)) ?_
    refine .w (.move rfl) ?_
    refine .c (f14_spec _ v (pcAt A x).2 b) body_14 ?_
    refine .nil (.tn ?_)
    refine .cn rfl (fun hc2 => ?_) (fun hc2 => ?_)
    · refine .seq (.region ?_)
      refine .w (.assign rfl) ?_
      refine .nil (.tn (.ret (.block_ret (.then_ret (.then_ret (.block_ret (.then_ret ?_)))))))
      exact .dn [] [] (res1 rfl (.tmp rfl)) ⟨congrArg Value.bool (decide_eq_true (List.mem_map.2 ⟨_, pc_mem (by omega), hc2⟩)).symm, rfl, rfl⟩
    · refine .skip (.block_normal (.tn (.region ?_)))
      refine .w (.move rfl) ?_
      refine .w (.bin rfl rfl (BinR.add_i zqf)) ?_
      refine .w (.assign rfl) ?_
      refine .nil ?_
      have hn2 : b ∉ (bytesP A).take (x + 1) := by rw [bytesP_get (by omega), List.mem_append, List.mem_singleton]; exact fun h => h.elim hn (fun e => hc2 e.symm)
      refine .hd (x + 1) ?_
      exact ⟨⟨by omega, hn2⟩, by omega⟩
  · obtain rfl : x = A.length := by omega
    rw [show (bytesP A).take A.length = bytesP A from List.take_of_length_le (by rw [bytesP_len]; omega)] at hn
    refine .exit (.then_exit (.then_exit (.block_exit (.tn (.seq (.region ?_))))))
    refine .w (.assign rfl) ?_
    refine .nil (.tn (.ret ?_))
    exact .dn [] [] (res1 rfl (.tmp rfl)) ⟨congrArg Value.bool (decide_eq_false hn).symm, rfl, rfl⟩

theorem f45_spec (u : Value) (L : Pcs) :
    Spec Tryz.prog 45 #[u] [Res.rd u L.length 1 (L.map Prod.fst), Res.all (pcRes L)] []
      (fun r Γ' H' => r = .bool (twB (bytesP L)) ∧ Γ' = [] ∧ H' = []) := by
  refine Spec.of_args Tryz.func45 rfl Tryz.ntmps45 (by simp) fun w => ?_
  refine JC.know (φ := L.length ≤ 9223372036854775807) (fun w hs => by obtain ⟨_, _, _, _, _, _, h⟩ := hs.rdForm (.head _); unfold maxLen at h; omega) fun hla => ?_
  refine .seq (.region ?_)
  refine .w (.assign rfl) ?_
  refine .nil (.tn (.seq (.seq (.region ?_))))
  refine .w (.move rfl) ?_
  refine .w (.len Tryz.underlying35 rfl) ?_
  refine .w (.move rfl) ?_
  refine .nil (.tn (.block ?_))
  refine .lp (ι := Nat) (fun x => x ≤ L.length ∧ ((bytesP L).take x).Nodup) (fun T x => (7, it (x : Int)) :: T) (fun T _ => T) (fun T _ => T) (fun x => L.length - x) 0 [0, 5, 6] ?_ (fun x hx => ?_)
  · exact ⟨Nat.zero_le _, by simp⟩
  obtain ⟨hx, hn⟩ := hx
  refine .seq (.region ?_)
  refine .w (.bin rfl rfl BinR.lss_i) ?_
  refine .nil (.tn (.seq ?_))
  refine .cn rfl (fun hc1 => ?_) (fun hc1 => ?_)
  · refine .skip (.tn (.seq (.block (.seq (.region ?_)))))
    refine JO.open (r := Res.rd (pcAt L x).1 (pcAt L x).2.length 1 ((pcAt L x).2.map u8)) zqa (pc_res (by omega)) ?_
    refine .w (.move rfl) ?_
    refine .w (.ix1 Tryz.underlying35 sz_23 rfl rfl) ?_
    refine .w (.ld one_23 rfl (hj := by first | exact pc_get (by omega) | rfl | exact tab_get zqg | exact gm (d := 0) zqg)) ?_
    refine .w (.assign rfl) ?_
    refine JO.cutRd (v := u) 0 x zqa (by omega) (by omega) ?_
    rw [rd_preP hx]
    refine JO.allOf L L (L.take x) zqa zqa (fun z hz => .inl (List.mem_of_mem_take hz)) ?_
    refine JO.know (φ := (pcAt L x).1.oneCell' = true) (fun w hs => pcs_one (hs.gok (Res.all (pcRes L)) zqa) _ (List.mem_map.2 ⟨_, pc_mem (by omega), rfl⟩)) fun hone => ?_
    refine .w (.assign rfl) ?_
    refine .nil (.tn (.seq ?_))
    refine JC.draw (.one 0 (.one 1 (.one 2 (.one 3 (.one 4 (.one 5 .nil)))))) (fun i => ([4, 5] : List Nat).contains i) (fun i => ([4, 5] : List Nat).contains i) (fun i => ([0, 1, 2, 3] : List Nat).contains i) mixed (by kernel_rfl) (by decide) (by kernel_rfl) ?_
    refine .uw rfl (.move rfl) ?_
    refine .uw rfl (.move rfl) ?_
    refine .uw rfl (.cutRd (l := 0) (h := x) Tryz.underlying35 sz_23 rfl zqa rfl ⟨_, rfl⟩ (by first | (simp; done) | omega | (simp; omega)) (by first | (simp; done) | omega | (simp; omega))) ?_
    refine .uw rfl (.move rfl) ?_
    refine .mw rfl (.cb (f47_spec (pcAt L x).1 hone) body_47 (h0 := by rintro _ _ _ ⟨_, _, h, _⟩; exact h)) ?_
    rintro _ _ _ ⟨_, ⟨q, rfl, _, rfl⟩, hΓ, hH⟩
    simp only [List.cons_append, List.nil_append] at hH; subst hΓ hH
    refine kp ?_
    refine .mw rfl (.c (f46Is_spec _ (L.take x) q (pcAt L x).1 (pcAt L x).2) body_46) ?_
    rintro _ _ _ ⟨rfl, rfl, rfl⟩
    refine kp ?_
    refine .nil (.tn ?_)
    refine .cn rfl (fun hc2 => ?_) (fun hc2 => ?_)
    · refine .seq (.region ?_)
      refine .w (.assign rfl) ?_
      refine .nil (.tn (.ret (.block_ret (.then_ret (.then_ret (.block_ret (.then_ret ?_)))))))
      exact .dn [] [] (res1 rfl (.tmp rfl)) ⟨congrArg Value.bool (tw_hit (by omega) hc2).symm, rfl, rfl⟩
    · refine .skip (.block_normal (.tn (.region ?_)))
      refine .w (.bin rfl rfl (BinR.add_i zqf)) ?_
      refine .w (.move rfl) ?_
      refine .nil ?_
      have hn2 := tw_go (by omega) hn hc2
      refine .hd (x + 1) ?_
      exact ⟨⟨by omega, hn2⟩, by omega⟩
  · obtain rfl : x = L.length := by omega
    rw [show (bytesP L).take L.length = bytesP L from List.take_of_length_le (by rw [bytesP_len]; omega)] at hn
    refine .exit (.then_exit (.then_exit (.block_exit (.tn (.seq (.region ?_))))))
    refine .w (.assign rfl) ?_
    refine .nil (.tn (.ret ?_))
    exact .dn [] [] (res1 rfl (.tmp rfl)) ⟨congrArg Value.bool (by rw [twB, decide_eq_true hn]; rfl), rfl, rfl⟩

theorem f24_spec (u : Value) (b : B8) (hb : b.length ≤ 1000000) :
    Spec Tryz.prog 24 #[u] [Res.rd u b.length 1 (b.map u8)] []
      (fun r Γ' H' => ∃ v N, bytesP N = unL b ∧ r = .tuple #[u64 (unH b), v, it (unE b)] ∧ Γ' = [Res.all (pcRes N)] ∧ H' = [Res.row v N.length 23 1 (N.map Prod.fst)]) := by
  refine Spec.of_args Tryz.func24 rfl Tryz.ntmps24 (by simp) fun w => ?_
  have hn10 := unN_le b
  have hb1 := Rdr.smA_b (Rdr.mk b 0) mx
  have hb2 := Rdr.smA_b ((Rdr.mk b 0).smA mx) 10#64
  dsimp only at hb1
  refine .seq (.region ?_)
  refine .w (.assign rfl) ?_
  refine JO.nilRow 23 1 ?_
  refine JO.sp0 ?_
  refine .w (.assign rfl) ?_
  refine .w (.assign rfl) ?_
  refine .nil (.tn (.seq (.region ?_)))
  refine .w (.move rfl) ?_
  refine .cb (f41_spec u b) body_41 ?_ (h0 := by rintro _ _ _ ⟨_, _, h, _⟩; exact h)
  rintro _ _ ⟨p, rfl, _, rfl⟩
  refine .ap ?_
  refine .w (.assign rfl) ?_
  refine .nil (.tn (.seq (.region ?_)))
  refine .w (.move rfl) ?_
  refine .cs (f42_spec p u (Rdr.mk b 0) mx) body_42 ?_
  rintro _ _ _ ⟨v1, rfl, rfl, rfl⟩
  refine .ap ?_
  refine .ap ?_
  refine .w (.assign rfl) ?_
  refine .nil (.tn (.seq (.seq (.region ?_))))
  refine .w (.move rfl) ?_
  refine .cs (f42_spec p v1 ((Rdr.mk b 0).smA mx) 10#64) body_42 ?_
  rintro _ _ _ ⟨v2, rfl, rfl, rfl⟩
  refine .ap ?_
  refine .ap ?_
  refine .w (.move rfl) ?_
  refine .nil (.tn (.block ?_))
  refine .lp (ι := (Nat × Pcs) × Rdr × Value × Value) (fun x => x.1.1 ≤ unN b ∧ x.1.2.length = x.1.1 ∧ x.2.1.b.length ≤ 1000000 ∧ Rdr.goB (unN b - x.1.1) (bytesP x.1.2) x.2.1 = unG b) (fun T x => (3, x.2.2.1) :: (12, u64 (BitVec.ofNat 64 x.1.1)) :: T) (fun T x => Res.rd x.2.2.2 x.2.1.b.length 1 (x.2.1.b.map u8) :: T) (fun T x => Res.cells p [x.2.2.2, it x.2.1.e] 117 :: Res.row x.2.2.1 x.1.2.length 23 1 (x.1.2.map Prod.fst) :: Res.sep (rowsP x.1.2 5) :: T) (fun x => unN b - x.1.1) ((0, []), unR b, .slice none 0 0, v2) [2, 4, 5, 11, 20, 21, 22, 23, 24, 25, 26, 27, 28, 29, 30, 31, 32, 33, 34, 35, 36, 37] ?_ (fun x hx => ?_)
  · exact ⟨Nat.zero_le _, rfl, by show (unR b).b.length ≤ 1000000; unfold unR; omega, rfl⟩
  obtain ⟨⟨k, N⟩, rk, v5, v'⟩ := x
  obtain ⟨hk, hNl, hrb, hgo⟩ := hx
  dsimp only at hk hNl hrb hgo ⊢
  have hbb := Rdr.byA_b rk 1000
  refine .seq (.region ?_)
  refine .w (.bin rfl rfl (BinR.lss_u64)) ?_
  refine .nil (.tn (.seq ?_))
  refine .cn rfl (fun hc1 => ?_) (fun hc1 => ?_)
  · have hck : k < unN b := by unfold unN mx; have h1 := hc1; rw [BitVec.toNat_ofNat, Nat.mod_eq_of_lt (by omega)] at h1; exact h1
    refine .skip (.tn (.seq (.block (.region ?_))))
    refine .w (.move rfl) ?_
    refine .w (.move rfl) ?_
    refine .cs (f43_spec p v' rk 1000 (by omega)) body_43 ?_
    rintro v16 _ _ ⟨v3, _, rfl, rfl⟩
    refine .ap ?_
    refine .ap ?_
    refine JO.know (φ := v16.oneCell' = true) (fun w hs => (by obtain ⟨A, c, rfl, _⟩ := row_rd (by decide) (Res.row_ok.1 (hs.hok _ (.head _))); rfl)) fun hv16 => ?_
    refine .l1 Tryz.underlying35 info_23 (fun v17 => ?_) (h1 := (one_sing hv16))
    refine .ap Tryz.underlying35 info_23 (fun v18 => ?_) (hone := (one_sing hv16))
    rw [snoc_row (b := rk.byO 1000)]
    refine .w (.assign rfl) ?_
    refine .nil (.block_normal (.tn (.region ?_)))
    refine .w (.as (v' := u64 (BitVec.ofNat 64 (k + 1))) (.bin rfl rfl (BinR.add_u64 (b := 1#64))) (congrArg u64 (by apply BitVec.eq_of_toNat_eq; simp))) ?_
    refine .w (.move rfl) ?_
    refine .nil ?_
    refine .rs (A := [Res.row v16 (rk.byO 1000).length 5 1 ((rk.byO 1000).map u8)]) (B := rowsP N 5) (L := rowsP (N ++ [(v16, rk.byO 1000)]) 5) (by simp [rowsP]) ?_
    refine .hd ((k + 1, N ++ [(v16, rk.byO 1000)]), rk.byA 1000, v18, v3) ?_
    refine ⟨⟨by dsimp only; omega, by simp [hNl], by dsimp only; omega, ?_⟩, by dsimp only; omega⟩
    dsimp only
    rw [← hgo, show unN b - k = (unN b - (k + 1)) + 1 by omega, Rdr.goB]
    simp [bytesP]
  · have hck : k = unN b := by have h1 := hc1; rw [BitVec.toNat_ofNat, Nat.mod_eq_of_lt (by omega)] at h1; have h2 : ¬ k < unN b := h1; omega
    subst hck
    rw [Nat.sub_self] at hgo
    refine .exit (.then_exit (.then_exit (.block_exit (.tn (.seq (.region ?_))))))
    have hun : unG b = (bytesP N, rk) := hgo.symm
    refine JO.frzP (by repeat (first | exact Pull.here _ _ | apply Pull.there)) ?_
    refine JO.nilRd 1 ?_
    refine .w (.move rfl) ?_
    refine .c (f44_spec p v' rk) body_44 ?_
    refine .w (.assign rfl) ?_
    refine .nil (.tn ?_)
    refine .mt (ι := Unit) (fun x => True) (fun T x => (4, it (unE b)) :: T) (fun T _ => T) (fun T _ => T) [2, 3, 33, 34, 35, 36, 37] [] ?_ (fun x hx => ?_)
    · refine .seq (.region ?_)
      refine JO.env [(2, u64 ((Rdr.mk b 0).sm mx)), (3, v5), (4, it rk.fin), (5, ptr p 0)] (by repeat (first | exact trivial | refine ⟨by first | rfl | (simp; done), ?_⟩)) ?_
      refine .w (.move rfl) ?_
      refine .w (.bin rfl rfl BinR.eql_i) ?_
      refine .join 9 32 (.bool (decide (rk.fin = 0 ∧ (twB (bytesP N) = true ∨ hasP (isB []) (bytesP N) = true)))) ?_ ?_
      · refine .w (.move rfl) ?_
        refine .gn (g := 23) rfl (fun hg28 hg28' => ?_) (fun hg28 hg28' => ?_)
        · refine .gt (g := 24) rfl rfl hg28 ?_
          refine .w (.move rfl) ?_
          refine .gt (g := 24) rfl rfl hg28 ?_
          refine .c (f45_spec v5 N) body_45 ?_
          refine .gt (g := 24) rfl rfl hg28 ?_
          refine .w (.move rfl) ?_
          refine .gn (g := 26) rfl (fun hg31 hg31' => ?_) (fun hg31 hg31' => ?_)
          · refine .gf (g := 27) rfl rfl hg31 (by decide) ?_
            refine .gf (g := 27) rfl rfl hg31 (by decide) ?_
            refine .gf (g := 27) rfl rfl hg31 (by decide) ?_
            refine .gt (g := 24) rfl rfl hg28 ?_
            refine .w (.pick1 rfl hg31 rfl) ?_
            refine .w (.pick1 rfl hg28 rfl) ?_
            refine .nil ?_
            refine .head () (by first | (refine ⟨by first | rfl | exact congrArg (fun b => some (Value.bool b)) (by first | exact (decide_eq_true (by omega)).symm | exact (decide_eq_false (by omega)).symm | exact decide_eq_decide.2 (by omega)) | (simp [*]; done) | (show some _ = some _; simp [*]; done), ?_⟩; repeat (first | exact trivial | refine ⟨rfl, ?_⟩))) (fun _ h => h) (Picks.perm zqd) ?_
            trivial
          · refine .gt (g := 27) rfl rfl hg31 ?_
            refine .w (.move rfl) ?_
            refine .gt (g := 27) rfl rfl hg31 ?_
            refine .cb (f47_spec (.slice none 0 0) rfl) body_47 ?_ (h0 := by rintro _ _ _ ⟨_, _, h, _⟩; exact h)
            rintro _ _ ⟨q, rfl, _, rfl⟩
            refine .ap ?_
            refine .gt (g := 27) rfl rfl hg31 ?_
            refine .c (f46Is_spec v5 N q (.slice none 0 0) []) body_46 ?_
            refine .gt (g := 24) rfl rfl hg28 ?_
            refine .w (.pick0 rfl hg31 rfl) ?_
            refine .w (.pick1 rfl hg28 rfl) ?_
            refine .nil ?_
            refine .head () (by first | (refine ⟨by first | rfl | exact congrArg (fun b => some (Value.bool b)) (by first | exact (decide_eq_true (by omega)).symm | exact (decide_eq_false (by omega)).symm | exact decide_eq_decide.2 (by omega)) | (simp [*]; done) | (show some _ = some _; simp [*]; done), ?_⟩; repeat (first | exact trivial | refine ⟨rfl, ?_⟩))) (fun _ h => h) (Picks.perm zqd) ?_
            trivial
        · refine .gf (g := 24) rfl rfl hg28 (by decide) ?_
          refine .gf (g := 24) rfl rfl hg28 (by decide) ?_
          refine .gf (g := 24) rfl rfl hg28 (by decide) ?_
          refine .gu (g := 27) rfl rfl (by decide) ?_
          refine .gu (g := 27) rfl rfl (by decide) ?_
          refine .gu (g := 27) rfl rfl (by decide) ?_
          refine .gf (g := 24) rfl rfl hg28 (by decide) ?_
          refine .w (.pick0 rfl hg28 rfl) ?_
          refine .nil ?_
          refine .head () (by first | (refine ⟨by first | rfl | exact congrArg (fun b => some (Value.bool b)) (by first | exact (decide_eq_true (by omega)).symm | exact (decide_eq_false (by omega)).symm | exact decide_eq_decide.2 (by omega)) | (simp [*]; done) | (show some _ = some _; simp [*]; done), ?_⟩; repeat (first | exact trivial | refine ⟨rfl, ?_⟩))) (fun _ h => h) (Picks.perm zqd) ?_
          trivial
      · refine .nil (.tn ?_)
        refine .cn rfl (fun hc2 => ?_) (fun hc2 => ?_)
        · refine .region ?_
          refine .w (.assign rfl) ?_
          refine .nil ?_
          refine .hd () ?_ (hE := (by refine ⟨congrArg (fun z => some (it z)) (by rw [unE, hun]; first | exact (if_pos hc2).symm | exact (if_neg hc2).symm), ?_⟩; repeat (first | exact trivial | refine ⟨rfl, ?_⟩)))
          trivial
        · refine .skip ?_
          refine .hd () ?_ (hE := (by refine ⟨congrArg (fun z => some (it z)) (by rw [unE, hun]; first | exact (if_pos hc2).symm | exact (if_neg hc2).symm), ?_⟩; repeat (first | exact trivial | refine ⟨rfl, ?_⟩)))
          trivial
    · obtain ⟨⟩ := x
      refine .seq (.seq (.region ?_))
      refine .w (.move rfl) ?_
      refine .w (.bin rfl rfl BinR.neq_i) ?_
      refine .nil (.tn ?_)
      refine .cn rfl (fun hc3 => ?_) (fun hc3 => ?_)
      · refine .seq (.region ?_)
        refine JO.nilRow 23 1 ?_
        refine JO.all0 ?_
        refine .w (.move rfl) ?_
        refine .w (.assign rfl) ?_
        refine .w (.assign rfl) ?_
        refine .w (.assign rfl) ?_
        refine .nil (.tn (.ret (.then_ret ?_)))
        exact .dn [Res.all (pcRes [])] [Res.row (.slice none 0 0) 0 23 1 []] (res3 rfl (.tmp rfl) (.tmp rfl) (.tmp rfl)) ⟨.slice none 0 0, [], (by rw [unL, if_neg hc3]; rfl), (by rw [unH, if_neg hc3]; rfl), rfl, rfl⟩
      · refine .skip (.tn (.seq (.region ?_)))
        refine .w (.move rfl) ?_
        refine .w (.move rfl) ?_
        refine .w (.assign rfl) ?_
        refine .w (.assign rfl) ?_
        refine .w (.assign rfl) ?_
        refine .nil (.tn (.ret ?_))
        have he : unE b = 0 := hc3
        exact .dn [Res.all (pcRes N)] [Res.row v5 N.length 23 1 (N.map Prod.fst)] (res3 rfl (.tmp rfl) (.tmp rfl) (.tmp rfl)) ⟨v5, N, (by rw [unL, if_pos he, hun]), (by rw [unH, if_pos he, he]), rfl, rfl⟩

theorem f38_spec (u : Value) (L : Pcs) :
    Spec Tryz.prog 38 #[u] [Res.rd u L.length 1 (L.map Prod.fst), Res.all (pcRes L)] []
      (fun r Γ' H' => r = .bool (twB (bytesP L)) ∧ Γ' = [] ∧ H' = []) := by
  refine Spec.of_args Tryz.func38 rfl Tryz.ntmps38 (by simp) fun w => ?_
  refine JC.know (φ := L.length ≤ 9223372036854775807) (fun w hs => by obtain ⟨_, _, _, _, _, _, h⟩ := hs.rdForm (.head _); unfold maxLen at h; omega) fun hla => ?_
  refine .seq (.region ?_)
  refine .w (.assign rfl) ?_
  refine .nil (.tn (.seq (.seq (.region ?_))))
  refine .w (.assign rfl) ?_
  refine .nil (.tn (.block ?_))
  refine .lp (ι := Nat) (fun x => x ≤ L.length ∧ ((bytesP L).take x).Nodup) (fun T x => (3, it (x : Int)) :: T) (fun T _ => T) (fun T _ => T) (fun x => L.length - x) 0 [0] ?_ (fun x hx => ?_)
  · exact ⟨Nat.zero_le _, by simp⟩
  obtain ⟨hx, hn⟩ := hx
  refine .seq (.seq (.region ?_))
  refine .w (.move rfl) ?_
  refine .w (.move rfl) ?_
  refine .w (.len Tryz.underlying35 rfl) ?_
  refine .w (.bin rfl rfl BinR.lss_i) ?_
  refine .nil (.tn ?_)
  refine .cn rfl (fun hc1 => ?_) (fun hc1 => ?_)
  · refine .skip (.tn (.seq (.block (.seq ?_))))
    refine JC.draw (.one 0 (.one 1 (.one 2 (.one 3 (.one 4 (.one 5 (.one 6 (.one 7 (.one 8 .nil))))))))) (fun i => ([7] : List Nat).contains i) (fun i => ([7] : List Nat).contains i) (fun i => ([0, 1, 2, 3, 4, 5, 8] : List Nat).contains i) mixed (by kernel_rfl) (by decide) (by kernel_rfl) ?_
    refine JR.open (r := Res.rd (pcAt L x).1 (pcAt L x).2.length 1 ((pcAt L x).2.map u8)) zqa (pc_res (by omega)) ?_
    refine JR.cutRd (v := u) 0 x zqa (by omega) (by omega) ?_
    rw [rd_preP hx]
    refine JR.allOf L L (L.take x) zqa zqa (fun z hz => .inl (List.mem_of_mem_take hz)) ?_
    refine .uw rfl (.move rfl) ?_
    refine .uw rfl (.move rfl) ?_
    refine .uw rfl (.cutRd (l := 0) (h := x) Tryz.underlying35 sz_23 rfl zqa rfl ⟨_, rfl⟩ (by first | (simp; done) | omega | (simp; omega)) (by first | (simp; done) | omega | (simp; omega))) ?_
    refine .uw rfl (.move rfl) ?_
    refine .uw rfl (.move rfl) ?_
    refine .uw rfl (.ix1 Tryz.underlying35 sz_23 rfl rfl) ?_
    refine .w rfl (.ld one_23 rfl (hj := by first | exact pc_get (by omega) | rfl | exact tab_get zqg | exact gm (d := 0) zqg)) ?_
    refine .mw rfl (.c (f61_spec _ (pcAt L x).1 (L.take x) (pcAt L x).2) body_61) ?_
    rintro _ _ _ ⟨rfl, rfl, rfl⟩
    refine kp ?_
    refine .uw rfl (.assign rfl) ?_
    refine .nil (.tn (.seq (.region ?_)))
    refine .w (.move rfl) ?_
    refine .nil (.tn ?_)
    refine .cn rfl (fun hc2 => ?_) (fun hc2 => ?_)
    · skip
      refine .seq (.region ?_)
      refine .w (.assign rfl) ?_
      refine .nil (.tn (.ret (.block_ret (.then_ret (.then_ret (.block_ret (.then_ret ?_)))))))
      exact .dn [] [] (res1 rfl (.tmp rfl)) ⟨congrArg Value.bool (tw_hit (L := L) (x := x) (by omega) (by rw [has_mem, decide_eq_true_eq]; exact hc2)).symm, rfl, rfl⟩
    · refine .skip (.block_normal (.tn (.region ?_)))
      refine .w (.move rfl) ?_
      refine .w (.bin rfl rfl (BinR.add_i zqf)) ?_
      refine .w (.assign rfl) ?_
      refine .nil ?_
      have hn2 := tw_go (by omega) hn (by rw [has_mem, decide_eq_false_iff_not]; exact hc2)
      refine .hd (x + 1) ?_
      exact ⟨⟨by omega, hn2⟩, by omega⟩
  · obtain rfl : x = L.length := by omega
    rw [show (bytesP L).take L.length = bytesP L from List.take_of_length_le (by rw [bytesP_len]; omega)] at hn
    refine .exit (.then_exit (.then_exit (.block_exit (.tn (.seq (.region ?_))))))
    refine .w (.assign rfl) ?_
    refine .nil (.tn (.ret ?_))
    exact .dn [] [] (res1 rfl (.tmp rfl)) ⟨congrArg Value.bool (by rw [twB, decide_eq_true hn]; rfl), rfl, rfl⟩

theorem f23_spec (h : BitVec 64) (u : Value) (L : Pcs) :
    Spec Tryz.prog 23 #[(u64 h), u] [Res.rd u L.length 1 (L.map Prod.fst), Res.all (pcRes L)] []
      (fun r Γ' H' => ∃ v, r = .tuple #[v, it (packE (bytesP L))] ∧ Γ' = [] ∧ H' = [Res.row v ((packO h (bytesP L))).length 5 1 (((packO h (bytesP L))).map u8)]) := by
  refine Spec.of_args Tryz.func23 rfl Tryz.ntmps23 (by simp) fun w => ?_
  refine JC.know (φ := L.length ≤ 9223372036854775807) (fun w hs => by obtain ⟨_, _, _, _, _, _, h⟩ := hs.rdForm (.head _); unfold maxLen at h; omega) fun hla => ?_
  have hbl := bytesP_len L
  have hs1 := smallB_le h
  have hs2 := smallB_le (BitVec.ofNat 64 L.length)
  refine .seq (.region ?_)
  refine .w (.assign rfl) ?_
  refine .w (.assign rfl) ?_
  refine .nil (.tn (.seq (.seq (.region ?_))))
  refine .w (.move rfl) ?_
  refine .w (.len Tryz.underlying35 rfl) ?_
  refine .w (.bin rfl rfl BinR.gtr_i) ?_
  refine .nil (.tn ?_)
  refine .cn rfl (fun hc1 => ?_) (fun hc1 => ?_)
  · refine .seq (.region ?_)
    refine JO.nilRow 5 1 ?_
    refine .w (.assign rfl) ?_
    refine .w (.assign rfl) ?_
    refine .nil (.tn (.ret (.then_ret ?_)))
    have he : (packE (bytesP L)) = 2 := by rw [packE, if_pos (.inl (by omega))]
    exact .dn [] [Res.row (.slice none 0 0) 0 5 1 []] (res2 rfl (.tmp rfl) (.tmp rfl)) ⟨_, (by rw [he]), rfl, (by rw [packO, if_neg (by rw [he]; decide)]; rfl)⟩
  · refine .skip (.tn (.seq (.seq (.region ?_))))
    refine .w (.assign rfl) ?_
    refine .nil (.tn (.block ?_))
    refine .lp (ι := Nat) (fun x => x ≤ L.length ∧ ∀ b ∈ (bytesP L).take x, 1 ≤ b.length ∧ b.length ≤ 1000) (fun T x => (6, it (x : Int)) :: T) (fun T _ => T) (fun T _ => T) (fun x => L.length - x) 0 [0, 1, 7, 8, 9, 33, 34, 35, 36, 37, 38, 39, 40, 41, 42, 43, 44, 45, 46, 47, 48, 49, 50, 51, 52, 53, 54, 55, 56] ?_ (fun x hx => ?_)
    · exact ⟨Nat.zero_le _, by simp⟩
    obtain ⟨hx, hfit⟩ := hx
    refine .seq (.seq (.region ?_))
    refine .w (.move rfl) ?_
    refine .w (.move rfl) ?_
    refine .w (.len Tryz.underlying35 rfl) ?_
    refine .w (.bin rfl rfl BinR.lss_i) ?_
    refine .nil (.tn ?_)
    refine .cn rfl (fun hc2 => ?_) (fun hc2 => ?_)
    · refine .skip (.tn (.seq (.block (.seq (.region ?_)))))
      refine JO.open (r := Res.rd (pcAt L x).1 (pcAt L x).2.length 1 ((pcAt L x).2.map u8)) zqa (pc_res (by omega)) ?_
      refine .w (.move rfl) ?_
      refine .w (.move rfl) ?_
      refine .w (.ix1 Tryz.underlying35 sz_23 rfl rfl) ?_
      refine .w (.ld one_23 rfl (hj := by first | exact pc_get (by omega) | rfl | exact tab_get zqg | exact gm (d := 0) zqg)) ?_
      refine .w (.len Tryz.underlying23 rfl) ?_
      refine .w (.bin rfl rfl BinR.lss_i) ?_
      refine .join 8 32 (.bool (decide ((pcAt L x).2.length < 1 ∨ (pcAt L x).2.length > 1000))) ?_ ?_
      · refine .w (.move rfl) ?_
        refine .gn (g := 24) rfl (fun hg20 hg20' => ?_) (fun hg20 hg20' => ?_)
        · refine .gf (g := 25) rfl rfl hg20 (by decide) ?_
          refine .gf (g := 25) rfl rfl hg20 (by decide) ?_
          refine .gf (g := 25) rfl rfl hg20 (by decide) ?_
          refine .gf (g := 25) rfl rfl hg20 (by decide) ?_
          refine .gf (g := 25) rfl rfl hg20 (by decide) ?_
          refine .gf (g := 25) rfl rfl hg20 (by decide) ?_
          refine .w (.pick1 rfl hg20 rfl) ?_
          refine .nil ?_
          refine .head () (by first | (refine ⟨by first | rfl | exact congrArg (fun b => some (Value.bool b)) (by first | exact (decide_eq_true (by omega)).symm | exact (decide_eq_false (by omega)).symm | exact decide_eq_decide.2 (by omega)) | (simp [*]; done) | (show some _ = some _; simp [*]; done), ?_⟩; repeat (first | exact trivial | refine ⟨rfl, ?_⟩))) (fun _ h => h) (Picks.perm zqd) ?_
          trivial
        · refine .gt (g := 25) rfl rfl hg20 ?_
          refine .w (.move rfl) ?_
          refine .gt (g := 25) rfl rfl hg20 ?_
          refine .w (.move rfl) ?_
          refine .gt (g := 25) rfl rfl hg20 ?_
          refine .w (.ix1 Tryz.underlying35 sz_23 rfl rfl) ?_
          refine .gt (g := 25) rfl rfl hg20 ?_
          refine .w (.ld one_23 rfl (hj := by first | exact pc_get (by omega) | rfl | exact tab_get zqg | exact gm (d := 0) zqg)) ?_
          refine .gt (g := 25) rfl rfl hg20 ?_
          refine .w (.len Tryz.underlying23 rfl) ?_
          refine .gt (g := 25) rfl rfl hg20 ?_
          refine .w (.bin rfl rfl BinR.gtr_i) ?_
          refine .w (.pick0 rfl hg20 rfl) ?_
          refine .nil ?_
          refine .head () (by first | (refine ⟨by first | rfl | exact congrArg (fun b => some (Value.bool b)) (by first | exact (decide_eq_true (by omega)).symm | exact (decide_eq_false (by omega)).symm | exact decide_eq_decide.2 (by omega)) | (simp [*]; done) | (show some _ = some _; simp [*]; done), ?_⟩; repeat (first | exact trivial | refine ⟨rfl, ?_⟩))) (fun _ h => h) (Picks.perm zqd) ?_
          trivial
      · refine .nil (.tn ?_)
        refine .cn rfl (fun hc3 => ?_) (fun hc3 => ?_)
        · refine .seq (.region ?_)
          refine JO.nilRow 5 1 ?_
          refine .w (.assign rfl) ?_
          refine .w (.assign rfl) ?_
          refine .nil (.tn (.ret (.block_ret (.then_ret (.then_ret (.block_ret (.then_ret ?_)))))))
          have he : (packE (bytesP L)) = 2 := by rw [packE, if_pos (.inr (List.any_eq_true.2 ⟨(pcAt L x).2, List.mem_map.2 ⟨_, pc_mem (by omega), rfl⟩, by rw [unfit, show fitB (pcAt L x).2 = false from decide_eq_false (by omega)]; rfl⟩))]
          exact .dn [] [Res.row (.slice none 0 0) 0 5 1 []] (res2 rfl (.tmp rfl) (.tmp rfl)) ⟨_, (by rw [he]), rfl, (by rw [packO, if_neg (by rw [he]; decide)]; rfl)⟩
        · refine .skip (.block_normal (.tn (.region ?_)))
          refine .w (.move rfl) ?_
          refine .w (.bin rfl rfl (BinR.add_i zqf)) ?_
          refine .w (.assign rfl) ?_
          refine .nil ?_
          have hn2 : ∀ b ∈ (bytesP L).take (x + 1), 1 ≤ b.length ∧ b.length ≤ 1000 := by
            rw [bytesP_get (by omega)]
            intro b hb
            rcases List.mem_append.1 hb with h | h
            · exact hfit b h
            · rw [List.mem_singleton] at h; subst h; omega
          refine .hd (x + 1) ?_
          exact ⟨⟨by omega, hn2⟩, by omega⟩
    · have hex : x = L.length := by omega
      subst hex
      rw [show (bytesP L).take L.length = bytesP L from List.take_of_length_le (by omega)] at hfit
      have hnf : ¬ hasP unfit (bytesP L) = true := fun h1 => by obtain ⟨b, hb, h2⟩ := List.any_eq_true.1 h1; rw [unfit, show fitB b = true from decide_eq_true (hfit b hb)] at h2; cases h2
      refine .exit (.then_exit (.then_exit (.block_exit (.tn (.seq (.region ?_))))))
      refine .w (.move rfl) ?_
      refine .c (f38_spec u L) body_38 ?_
      refine .w (.assign rfl) ?_
      refine .nil (.tn (.seq (.seq (.region ?_))))
      refine .w (.move rfl) ?_
      refine .nil (.tn ?_)
      refine .cn rfl (fun hc4 => ?_) (fun hc4 => ?_)
      · refine .seq (.region ?_)
        refine JO.nilRow 5 1 ?_
        refine .w (.assign rfl) ?_
        refine .w (.assign rfl) ?_
        refine .nil (.tn (.ret (.then_ret ?_)))
        have he : (packE (bytesP L)) = 13 := by rw [packE, if_neg (by rw [hbl]; exact fun h1 => h1.elim (fun h2 => by omega) hnf), if_pos (by simpa using hc4)]
        exact .dn [] [Res.row (.slice none 0 0) 0 5 1 []] (res2 rfl (.tmp rfl) (.tmp rfl)) ⟨_, (by rw [he]), rfl, (by rw [packO, if_neg (by rw [he]; decide)]; rfl)⟩
      · have he0 : (packE (bytesP L)) = 0 := by rw [packE, if_neg (by rw [hbl]; exact fun h1 => h1.elim (fun h2 => by omega) hnf), if_neg (by simpa using hc4)]
        refine .skip (.tn (.seq (.region ?_)))
        refine .w (.move rfl) ?_
        refine .cb (f39_spec h) body_39 ?_
        rintro v37 _ ⟨_, _, rfl⟩
        refine .ap ?_
        refine .w (.move rfl) ?_
        refine .w (.len Tryz.underlying35 rfl) ?_
        refine .w (.as (v' := u64 (BitVec.ofNat 64 L.length)) (.conv_i_u64 Tryz.underlying3 Tryz.underlying30 rfl) (congrArg u64 (BitVec.ofInt_natCast _ _))) ?_
        refine .cb (f39_spec (BitVec.ofNat 64 L.length)) body_39 ?_
        rintro v41 _ ⟨_, _, rfl⟩
        refine .ap ?_
        refine .ap Tryz.underlying23 info_5 (fun v42 => ?_) (hone := one_u8s)
        rw [map_cat, len_cat]
        refine .w (.assign rfl) ?_
        refine .nil (.tn (.seq (.seq (.region ?_))))
        refine .w (.assign rfl) ?_
        refine .nil (.tn (.block ?_))
        refine .lp (ι := Nat × Value) (fun x => x.1 ≤ L.length) (fun T x => (9, it (x.1 : Int)) :: (8, x.2) :: T) (fun T _ => T) (fun T x => Res.row x.2 ((smallB h ++ smallB (BitVec.ofNat 64 L.length) ++ ((bytesP L).take x.1).flatMap bytesB)).length 5 1 (((smallB h ++ smallB (BitVec.ofNat 64 L.length) ++ ((bytesP L).take x.1).flatMap bytesB)).map u8) :: T) (fun x => L.length - x.1) (0, v42) [1, 4, 5, 56] ?_ (fun x hx => ?_) (hH := (by dsimp only; rw [List.take_zero, List.flatMap_nil, List.append_nil]; repeat (first | exact Picks.nil _ | apply Picks.cons | exact Pull.here _ _ | apply Pull.there)))
        · exact Nat.zero_le _
        obtain ⟨k, w⟩ := x
        have hk : k ≤ L.length := hx
        dsimp only
        refine .seq (.seq (.region ?_))
        refine .w (.move rfl) ?_
        refine .w (.move rfl) ?_
        refine .w (.len Tryz.underlying35 rfl) ?_
        refine .w (.bin rfl rfl BinR.lss_i) ?_
        refine .nil (.tn ?_)
        refine .cn rfl (fun hc5 => ?_) (fun hc5 => ?_)
        · refine .skip (.tn (.seq (.block (.region ?_))))
          refine JO.open (r := Res.rd (pcAt L k).1 (pcAt L k).2.length 1 ((pcAt L k).2.map u8)) zqa (pc_res (by omega)) ?_
          refine .w (.move rfl) ?_
          refine .w (.move rfl) ?_
          refine .w (.move rfl) ?_
          refine .w (.ix1 Tryz.underlying35 sz_23 rfl rfl) ?_
          refine .w (.ld one_23 rfl (hj := by first | exact pc_get (by omega) | rfl | exact tab_get zqg | exact gm (d := 0) zqg)) ?_
          refine .cb (f40_spec (pcAt L k).1 (pcAt L k).2 (by have := (hfit _ (List.mem_map.2 ⟨_, pc_mem (l := L) (k := k) (by omega), rfl⟩)).2; omega)) body_40 ?_
          rintro v54 _ ⟨_, _, rfl⟩
          refine .ap ?_
          have hbb := bytesB_len (pcAt L k).2
          have hpp := (hfit _ (List.mem_map.2 ⟨_, pc_mem (l := L) (k := k) (by omega), rfl⟩)).2
          have hfl := flatB_le (l := (bytesP L).take k) (fun b hb => (hfit b (List.mem_of_mem_take hb)).2)
          rw [List.length_take] at hfl
          have hpl : (smallB h ++ smallB (BitVec.ofNat 64 L.length) ++ ((bytesP L).take k).flatMap bytesB).length = (smallB h).length + (smallB (BitVec.ofNat 64 L.length)).length + (((bytesP L).take k).flatMap bytesB).length := by rw [List.length_append, List.length_append]
          refine .ap Tryz.underlying23 info_5 (fun v55 => ?_) (hone := one_u8s)
          rw [map_cat, len_cat, show (smallB h ++ smallB (BitVec.ofNat 64 L.length) ++ ((bytesP L).take k).flatMap bytesB) ++ bytesB (pcAt L k).2 = (smallB h ++ smallB (BitVec.ofNat 64 L.length) ++ ((bytesP L).take (k + 1)).flatMap bytesB) from by rw [bytesP_get (by omega), List.flatMap_append]; simp]
          refine .w (.assign rfl) ?_
          refine .nil (.block_normal (.tn (.region ?_)))
          refine .w (.move rfl) ?_
          refine .w (.bin rfl rfl (BinR.add_i zqf)) ?_
          refine .w (.assign rfl) ?_
          refine .nil ?_
          refine .hd (k + 1, v55) ?_
          exact ⟨by dsimp only; omega, by dsimp only; omega⟩
        · have he : k = L.length := by omega
          subst he
          rw [show (bytesP L).take L.length = bytesP L from List.take_of_length_le (by omega), show smallB h ++ smallB (BitVec.ofNat 64 L.length) ++ (bytesP L).flatMap bytesB = packB h (bytesP L) from by rw [packB, hbl]]
          refine .exit (.then_exit (.then_exit (.block_exit (.tn (.seq (.region ?_))))))
          refine .w (.move rfl) ?_
          refine .w (.assign rfl) ?_
          refine .w (.assign rfl) ?_
          refine .nil (.tn (.ret ?_))
          exact .dn [] [Res.row w (packB h (bytesP L)).length 5 1 ((packB h (bytesP L)).map u8)] (res2 rfl (.tmp rfl) (.tmp rfl)) ⟨w, (by rw [he0]), rfl, (by rw [packO, if_pos he0])⟩
end Go.Proofs.YthfipbjmpeegbaaGreatDoor
