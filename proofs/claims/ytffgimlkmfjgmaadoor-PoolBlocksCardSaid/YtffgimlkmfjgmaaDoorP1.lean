/- Walks: the pool. -/
import Derived.Test.YtffgimlkmfjgmaaDoorF1
import Derived.Test.YtffgimlkmfjgmaaDoorP17
namespace Go.Proofs.YtffgimlkmfjgmaaDoor
open Go.RowKit
set_option maxRecDepth 100000
set_option linter.unusedVariables false
set_option linter.unusedSimpArgs false
theorem f12_spec (u v : Value) (a b : Pcs) :
    Spec Tryd.prog 12 #[u, v] [Res.rd u a.length 1 (a.map Prod.fst), Res.rd v b.length 1 (b.map Prod.fst), Res.all (pcRes a), Res.all (pcRes b)] []
      (fun r Γ' H' => r = .bool (decide (bytesP a = bytesP b)) ∧ Γ' = [] ∧ H' = []) := by
  refine Spec.of_args Tryd.func12 rfl Tryd.ntmps12 (by simp) fun w => ?_
  refine JC.know (φ := a.length ≤ 9223372036854775807) (fun w hs => by obtain ⟨_, _, _, _, _, _, h⟩ := hs.rdForm (.head _); unfold maxLen at h; omega) fun hla => ?_
  refine JC.know (φ := b.length ≤ 9223372036854775807) (fun w hs => by obtain ⟨_, _, _, _, _, _, h⟩ := hs.rdForm (.tail _ (.head _)); unfold maxLen at h; omega) fun hlb => ?_
  refine .seq (.region ?_)
  refine .w (.assign rfl) ?_
  refine .nil (.tn (.seq (.seq (.region ?_))))
  refine .w (.move rfl) ?_
  refine .w (.len Tryd.underlying23 rfl) ?_
  refine .w (.move rfl) ?_
  refine .w (.len Tryd.underlying23 rfl) ?_
  refine .w (.bin rfl rfl BinR.neq_i) ?_
  refine .nil (.tn ?_)
  refine .cn rfl (fun hc1 => ?_) (fun hc1 => ?_)
  · refine .seq (.region ?_)
    refine .w (.assign rfl) ?_
    refine .nil (.tn (.ret (.then_ret ?_)))
    exact .dn [] [] (res1 rfl (.tmp rfl)) ⟨congrArg Value.bool (decide_eq_false (fun h => hc1 (by have := congrArg List.length h; rw [bytesP_len, bytesP_len] at this; rw [this]))).symm, rfl, rfl⟩
  · have hab : a.length = b.length := by omega
    refine .skip (.tn (.seq (.seq (.region ?_))))
    refine .w (.assign rfl) ?_
    refine .nil (.tn (.block ?_))
    refine .lp (ι := Nat) (fun x => x ≤ a.length ∧ bytesP (a.take x) = bytesP (b.take x)) (fun T x => (5, it (x : Int)) :: T) (fun T _ => T) (fun T _ => T) (fun x => a.length - x) 0 [0, 1] ?_ (fun x hx => ?_)
    · exact ⟨Nat.zero_le _, rfl⟩
    obtain ⟨hx1, hx2⟩ := hx
    refine .seq (.seq (.region ?_))
    refine .w (.move rfl) ?_
    refine .w (.move rfl) ?_
    refine .w (.len Tryd.underlying23 rfl) ?_
    refine .w (.bin rfl rfl BinR.lss_i) ?_
    refine .nil (.tn ?_)
    refine .cn rfl (fun hc2 => ?_) (fun hc2 => ?_)
    · refine .skip (.tn (.seq (.block (.seq ?_))))
      refine JC.draw (.one 0 (.one 1 (.one 2 (.one 3 (.one 4 (.one 5 (.one 6 (.one 7 (.one 8 (.one 9 .nil)))))))))) (fun i => ([8] : List Nat).contains i) (fun i => ([8] : List Nat).contains i) (fun i => ([0, 1, 2, 4, 5, 6, 9] : List Nat).contains i) mixed (by kernel_rfl) (by decide) (by kernel_rfl) ?_
      refine JR.open (r := Res.rd (pcAt a x).1 (pcAt a x).2.length 1 ((pcAt a x).2.map u8)) (by repeat (first | exact List.Mem.head _ | refine List.Mem.tail _ ?_)) (pc_res (by omega)) ?_
      refine JR.open (r := Res.rd (pcAt b x).1 (pcAt b x).2.length 1 ((pcAt b x).2.map u8)) (by repeat (first | exact List.Mem.head _ | refine List.Mem.tail _ ?_)) (pc_res (by omega)) ?_
      refine .uw rfl (.move rfl) ?_
      refine .uw rfl (.move rfl) ?_
      refine .uw rfl (.ix1 Tryd.underlying23 sz_24 rfl rfl) ?_
      refine .w rfl (.ld one_24 rfl (hj := by first | exact pc_get (by omega) | rfl | exact tab_get (by first | omega | (simp; omega)) | exact gm (d := 0) (by first | omega | (simp; omega)))) ?_
      refine .uw rfl (.move rfl) ?_
      refine .uw rfl (.move rfl) ?_
      refine .uw rfl (.ix1 Tryd.underlying23 sz_24 rfl rfl) ?_
      refine .w rfl (.ld one_24 rfl (hj := by first | exact pc_get (by omega) | rfl | exact tab_get (by first | omega | (simp; omega)) | exact gm (d := 0) (by first | omega | (simp; omega)))) ?_
      refine .mw rfl (.c (f11_spec _ _ (pcAt a x).2 (pcAt b x).2) body_11) ?_
      rintro _ _ _ ⟨rfl, rfl, rfl⟩
      refine kp ?_
      refine .uw rfl (.not rfl) ?_
      refine .nil (.tn ?_)
      refine .cn rfl (fun hc3 => ?_) (fun hc3 => ?_)
      · refine .seq (.region ?_)
        refine .w (.assign rfl) ?_
        refine .nil (.tn (.ret (.block_ret (.then_ret (.then_ret (.block_ret (.then_ret ?_)))))))
        exact .dn [] [] (res1 rfl (.tmp rfl)) ⟨congrArg Value.bool (decide_eq_false (fun h => hc3 (pcAt_of h))).symm, rfl, rfl⟩
      · refine .skip (.block_normal (.tn (.region ?_)))
        refine .w (.move rfl) ?_
        refine .w (.bin rfl rfl (BinR.add_i (by first | (constructor <;> omega) | (constructor <;> simp <;> omega)))) ?_
        refine .w (.assign rfl) ?_
        refine .nil ?_
        have hx3 : bytesP (a.take (x + 1)) = bytesP (b.take (x + 1)) := by rw [take_snocP (by omega), take_snocP (by omega), hx2, hc3]
        refine .hd (x + 1) ?_
        exact ⟨⟨by omega, hx3⟩, by omega⟩
    · have he : x = a.length := by omega
      subst he
      rw [List.take_length, hab, List.take_length] at hx2
      refine .exit (.then_exit (.then_exit (.block_exit (.tn (.seq (.region ?_))))))
      refine .w (.assign rfl) ?_
      refine .nil (.tn (.ret ?_))
      exact .dn [] [] (res1 rfl (.tmp rfl)) ⟨congrArg Value.bool (decide_eq_true hx2).symm, rfl, rfl⟩

theorem f50_spec (u v : Value) (a b : B8) :
    Spec Tryd.prog 50 #[u, v] [Res.rd u a.length 1 (a.map u8), Res.rd v b.length 1 (b.map u8)] []
      (fun r Γ' H' => r = .bool (decide (a = b)) ∧ Γ' = [] ∧ H' = []) := by
  refine Spec.of_args Tryd.func50 rfl Tryd.ntmps50 (by simp) fun w => ?_
  refine .seq (.region ?_)
  refine .w (.assign rfl) ?_
  refine .nil (.tn (.seq (.region ?_)))
  refine .w (.move rfl) ?_
  refine .w (.conv_str Tryd.underlying24 Tryd.underlying5 Tryd.underlying9 rfl rfl (by repeat (first | exact Lend.same _ _ | exact Lend.row _ _ _ _ _ _ (by decide) | apply Lend.there))) ?_
  refine .w (.move rfl) ?_
  refine .w (.conv_str Tryd.underlying24 Tryd.underlying5 Tryd.underlying9 rfl rfl (by repeat (first | exact Lend.same _ _ | exact Lend.row _ _ _ _ _ _ (by decide) | apply Lend.there))) ?_
  refine .w (.bin rfl rfl (BinR.eql_str _ _)) ?_
  refine .w (.assign rfl) ?_
  refine .nil (.tn (.ret ?_))
  exact .dn [] [] (res1 rfl (.tmp rfl)) ⟨rfl, rfl, rfl⟩

theorem f49_spec (q : Nat) (tv : Value) (b : B8) (u : Value) (c : B8) :
    Spec Tryd.prog 49 #[u, (ptr q 0)] [Res.cells q [tv] 24, Res.rd tv b.length 1 (b.map u8), Res.rd u c.length 1 (c.map u8)] []
      (fun r Γ' H' => r = .bool (decide (b = c)) ∧ Γ' = [] ∧ H' = []) := by
  refine Spec.of_args Tryd.func49 rfl Tryd.ntmps49 (by simp) fun w => ?_
  refine .seq (.region ?_)
  refine .w (.assign rfl) ?_
  refine .nil (.tn (.seq (.region ?_)))
  refine .w (.ld one_24 rfl) ?_
  refine .w (.move rfl) ?_
  refine .c (f50_spec tv u b c) body_50 ?_
  refine .w (.assign rfl) ?_
  refine .nil (.tn (.ret ?_))
  exact .dn [] [] (res1 rfl (.tmp rfl)) ⟨rfl, rfl, rfl⟩

theorem f19_spec (u : Value) (c : B8) :
    Spec Tryd.prog 19 #[u] [Res.rd u c.length 1 (c.map u8)] []
      (fun r Γ' H' => r = .bool (fitB c) ∧ Γ' = [] ∧ H' = []) := by
  refine Spec.of_args Tryd.func19 rfl Tryd.ntmps19 (by simp) fun w => ?_
  refine JC.know (φ := c.length ≤ 9223372036854775807) (fun w hs => by obtain ⟨_, _, _, _, _, _, h⟩ := hs.rdForm (.head _); unfold maxLen at h; omega) fun hln => ?_
  refine .seq (.region ?_)
  refine .w (.assign rfl) ?_
  refine .nil (.tn (.seq (.region ?_)))
  refine .w (.move rfl) ?_
  refine .w (.len Tryd.underlying24 rfl) ?_
  refine .w (.bin rfl rfl BinR.geq_i) ?_
  refine .join 5 10 (.bool (decide (1 ≤ c.length ∧ c.length ≤ 1000))) ?_ ?_
  · refine .w (.move rfl) ?_
    refine .gn (g := 5) rfl (fun hg6 hg6' => ?_) (fun hg6 hg6' => ?_)
    · refine .gt (g := 6) rfl rfl hg6 ?_
      refine .w (.move rfl) ?_
      refine .gt (g := 6) rfl rfl hg6 ?_
      refine .w (.len Tryd.underlying24 rfl) ?_
      refine .gt (g := 6) rfl rfl hg6 ?_
      refine .w (.bin rfl rfl BinR.leq_i) ?_
      refine .w (.pick1 rfl hg6 rfl) ?_
      refine .nil ?_
      refine .head () (by first | (refine ⟨by first | rfl | exact congrArg (fun b => some (Value.bool b)) (by first | exact (decide_eq_true (by omega)).symm | exact (decide_eq_false (by omega)).symm | exact decide_eq_decide.2 (by omega)) | (simp [*]; done) | (show some _ = some _; simp [*]; done), ?_⟩; repeat (first | exact trivial | refine ⟨rfl, ?_⟩))) (fun _ h => h) (Picks.perm (by repeat (first | exact Picks.nil _ | apply Picks.cons | exact Pull.here _ _ | apply Pull.there))) ?_
      trivial
    · refine .gf (g := 6) rfl rfl hg6 (by decide) ?_
      refine .gf (g := 6) rfl rfl hg6 (by decide) ?_
      refine .gf (g := 6) rfl rfl hg6 (by decide) ?_
      refine .w (.pick0 rfl hg6 rfl) ?_
      refine .nil ?_
      refine .head () (by first | (refine ⟨by first | rfl | exact congrArg (fun b => some (Value.bool b)) (by first | exact (decide_eq_true (by omega)).symm | exact (decide_eq_false (by omega)).symm | exact decide_eq_decide.2 (by omega)) | (simp [*]; done) | (show some _ = some _; simp [*]; done), ?_⟩; repeat (first | exact trivial | refine ⟨rfl, ?_⟩))) (fun _ h => h) (Picks.perm (by repeat (first | exact Picks.nil _ | apply Picks.cons | exact Pull.here _ _ | apply Pull.there))) ?_
      trivial
  · refine .w (.assign rfl) ?_
    refine .nil (.tn (.ret ?_))
    exact .dn [] [] (res1 rfl (.tmp rfl)) ⟨rfl, rfl, rfl⟩

theorem f18_spec (u : Value) (c : B8) :
    Spec Tryd.prog 18 #[u] [Res.rd u c.length 1 (c.map u8)] []
      (fun r Γ' H' => r = .bool (!fitB c) ∧ Γ' = [] ∧ H' = []) := by
  refine Spec.of_args Tryd.func18 rfl Tryd.ntmps18 (by simp) fun w => ?_
  refine .seq (.region ?_)
  refine .w (.assign rfl) ?_
  refine .nil (.tn (.seq (.region ?_)))
  refine .w (.move rfl) ?_
  refine .c (f19_spec u c) body_19 ?_
  refine .w (.not rfl) ?_
  refine .w (.assign rfl) ?_
  refine .nil (.tn (.ret ?_))
  exact .dn [] [] (res1 rfl (.tmp rfl)) ⟨rfl, rfl, rfl⟩

theorem f31_spec (u : Value) (hu : u.oneCell' = true) :
    Spec Tryd.prog 31 #[u] [] []
      (fun r Γ' H' => ∃ q, r = .func (.func 49) #[] #[ptr q 0] ∧ Γ' = [] ∧ H' = [Res.cells q [u] 24]) := by
  refine Spec.of_args Tryd.func31 rfl Tryd.ntmps31 (by simp) fun w => ?_
  refine .seq (.region ?_)
  refine .bx fun b1 => ?_
  rw [show u.cells.toList = [u] from congrArg Array.toList (one_cells hu)]
  refine .w (.assign rfl) ?_
  refine .nil (.tn (.seq (.region ?_)))
  refine .w (.makeFunc rfl rfl) ?_
  refine .w (.assign rfl) ?_
  refine .nil (.tn (.ret ?_))
  exact .dn [] [Res.cells b1 [u] 24] (res1 rfl (.tmp rfl)) ⟨_, rfl, rfl, rfl⟩

theorem f41Is_spec (u : Value) (A : Pcs) (q : Nat) (tv : Value) (b : B8) :
    Spec Tryd.prog 41 #[u, (.func (.func 49) #[] #[ptr q 0])] [Res.rd u A.length 1 (A.map Prod.fst), Res.all (pcRes A), Res.cells q [tv] 24, Res.rd tv b.length 1 (b.map u8)] []
      (fun r Γ' H' => r = (it (ixP (isB b) A)) ∧ Γ' = [] ∧ H' = []) := by
  refine Spec.of_args Tryd.func41 rfl Tryd.ntmps41 (by simp) fun w => ?_
  refine JC.know (φ := A.length ≤ 9223372036854775807) (fun w hs => by obtain ⟨_, _, _, _, _, _, h⟩ := hs.rdForm (.head _); unfold maxLen at h; omega) fun hla => ?_
  refine .seq (.region ?_)
  refine .w (.assign rfl) ?_
  refine .nil (.tn (.seq (.seq (.region ?_))))
  refine .w (.move rfl) ?_
  refine .w (.len Tryd.underlying23 rfl) ?_
  refine .w (.move rfl) ?_
  refine .nil (.tn (.block ?_))
  refine .lp (ι := Nat) (fun x => x ≤ A.length ∧ ∀ j, j < x → (isB b) (pcAt A j).2 = false) (fun T x => (8, it (x : Int)) :: T) (fun T _ => T) (fun T _ => T) (fun x => A.length - x) 0 [0, 1, 7] ?_ (fun x hx => ?_)
  · exact ⟨Nat.zero_le _, fun j hj => absurd hj (Nat.not_lt_zero _)⟩
  obtain ⟨hx, hn⟩ := hx
  refine .seq (.region ?_)
  refine .w (.bin rfl rfl BinR.lss_i) ?_
  refine .nil (.tn (.seq ?_))
  refine .cn rfl (fun hc1 => ?_) (fun hc1 => ?_)
  · refine .skip (.tn (.seq (.block (.seq (.region ?_)))))
    refine .w (.move rfl) ?_
    refine .w (.assign rfl) ?_
    refine .nil (.tn (.seq (.region ?_)))
    refine .w (.move rfl) ?_
    refine .w (.move rfl) ?_
    refine .w (.move rfl) ?_
    refine .w (.ix1 Tryd.underlying23 sz_24 rfl rfl) ?_
    refine JO.open (r := Res.rd (pcAt A x).1 (pcAt A x).2.length 1 ((pcAt A x).2.map u8)) (by repeat (first | exact List.Mem.head _ | refine List.Mem.tail _ ?_)) (pc_res (by omega)) ?_
    refine .w (.ld one_24 rfl (hj := by first | exact pc_get (by omega) | rfl | exact tab_get (by first | omega | (simp; omega)) | exact gm (d := 0) (by first | omega | (simp; omega)))) ?_
    refine JO.callF (f49_spec q tv b (pcAt A x).1 (pcAt A x).2) body_49 rfl rfl rfl (by repeat (first | exact Picks.nil _ | apply Picks.cons | exact Pull.here _ _ | apply Pull.there)) (by repeat (first | exact Lends.nil _ | apply Lends.cons | exact Lend.same _ _ | exact Lend.row _ _ _ _ _ _ (by decide) | apply Lend.there)) (by rintro _ _ _ ⟨_, h, _⟩; exact h) (by decide) ?_
    rintro _ _ ⟨_, ⟨rfl, _, rfl⟩, hH⟩
    simp only [List.cons_append, List.nil_append] at hH; subst hH
    refine .nil (.tn ?_)
    refine .cn rfl (fun hc2 => ?_) (fun hc2 => ?_)
    · refine .seq (.region ?_)
      refine .w (.move rfl) ?_
      refine .w (.as (v' := it (ixP (isB b) A)) (.assign rfl) (congrArg it (ix_hit (by omega) (by first | exact hc2 | exact decide_eq_true hc2 | simpa using hc2) hn).symm)) ?_
      refine .nil (.tn (.ret (.block_ret (.then_ret (.then_ret (.block_ret (.then_ret ?_)))))))
      exact .dn [] [] (res1 rfl (.tmp rfl)) ⟨rfl, rfl, rfl⟩
    · refine .skip (.block_normal (.tn (.region ?_)))
      refine .w (.bin rfl rfl (BinR.add_i (by first | (constructor <;> omega) | (constructor <;> simp <;> omega)))) ?_
      refine .w (.move rfl) ?_
      refine .nil ?_
      have hn2 : ∀ j, j < x + 1 → (isB b) (pcAt A j).2 = false := fun j hj => (by
        rcases Nat.lt_succ_iff_lt_or_eq.1 hj with h1 | rfl
        · exact hn j h1
        · first | exact hc2 | exact decide_eq_false hc2 | simpa using hc2)
      refine .hd (x + 1) ?_
      exact ⟨⟨by omega, hn2⟩, by omega⟩
  · obtain rfl : x = A.length := by omega
    refine .exit (.then_exit (.then_exit (.block_exit (.tn (.seq (.region ?_))))))
    refine .w (.as (v' := it (ixP (isB b) A)) (.assign rfl) (congrArg it (ix_none hn).symm)) ?_
    refine .nil (.tn (.ret ?_))
    exact .dn [] [] (res1 rfl (.tmp rfl)) ⟨rfl, rfl, rfl⟩

theorem f41Fit_spec (u : Value) (A : Pcs)  :
    Spec Tryd.prog 41 #[u, (.func (.func 18) #[] #[])] [Res.rd u A.length 1 (A.map Prod.fst), Res.all (pcRes A)] []
      (fun r Γ' H' => r = (it (ixP (fun c => !fitB c) A)) ∧ Γ' = [] ∧ H' = []) := by
  refine Spec.of_args Tryd.func41 rfl Tryd.ntmps41 (by simp) fun w => ?_
  refine JC.know (φ := A.length ≤ 9223372036854775807) (fun w hs => by obtain ⟨_, _, _, _, _, _, h⟩ := hs.rdForm (.head _); unfold maxLen at h; omega) fun hla => ?_
  refine .seq (.region ?_)
  refine .w (.assign rfl) ?_
  refine .nil (.tn (.seq (.seq (.region ?_))))
  refine .w (.move rfl) ?_
  refine .w (.len Tryd.underlying23 rfl) ?_
  refine .w (.move rfl) ?_
  refine .nil (.tn (.block ?_))
  refine .lp (ι := Nat) (fun x => x ≤ A.length ∧ ∀ j, j < x → (fun c => !fitB c) (pcAt A j).2 = false) (fun T x => (8, it (x : Int)) :: T) (fun T _ => T) (fun T _ => T) (fun x => A.length - x) 0 [0, 1, 7] ?_ (fun x hx => ?_)
  · exact ⟨Nat.zero_le _, fun j hj => absurd hj (Nat.not_lt_zero _)⟩
  obtain ⟨hx, hn⟩ := hx
  refine .seq (.region ?_)
  refine .w (.bin rfl rfl BinR.lss_i) ?_
  refine .nil (.tn (.seq ?_))
  refine .cn rfl (fun hc1 => ?_) (fun hc1 => ?_)
  · refine .skip (.tn (.seq (.block (.seq (.region ?_)))))
    refine .w (.move rfl) ?_
    refine .w (.assign rfl) ?_
    refine .nil (.tn (.seq (.region ?_)))
    refine .w (.move rfl) ?_
    refine .w (.move rfl) ?_
    refine .w (.move rfl) ?_
    refine .w (.ix1 Tryd.underlying23 sz_24 rfl rfl) ?_
    refine JO.open (r := Res.rd (pcAt A x).1 (pcAt A x).2.length 1 ((pcAt A x).2.map u8)) (by repeat (first | exact List.Mem.head _ | refine List.Mem.tail _ ?_)) (pc_res (by omega)) ?_
    refine .w (.ld one_24 rfl (hj := by first | exact pc_get (by omega) | rfl | exact tab_get (by first | omega | (simp; omega)) | exact gm (d := 0) (by first | omega | (simp; omega)))) ?_
    refine JO.callF (f18_spec (pcAt A x).1 (pcAt A x).2) body_18 rfl rfl rfl (by repeat (first | exact Picks.nil _ | apply Picks.cons | exact Pull.here _ _ | apply Pull.there)) (by repeat (first | exact Lends.nil _ | apply Lends.cons | exact Lend.same _ _ | exact Lend.row _ _ _ _ _ _ (by decide) | apply Lend.there)) (by rintro _ _ _ ⟨_, h, _⟩; exact h) (by decide) ?_
    rintro _ _ ⟨_, ⟨rfl, _, rfl⟩, hH⟩
    simp only [List.cons_append, List.nil_append] at hH; subst hH
    refine .nil (.tn ?_)
    refine .cn rfl (fun hc2 => ?_) (fun hc2 => ?_)
    · refine .seq (.region ?_)
      refine .w (.move rfl) ?_
      refine .w (.as (v' := it (ixP (fun c => !fitB c) A)) (.assign rfl) (congrArg it (ix_hit (by omega) (by first | exact hc2 | exact decide_eq_true hc2 | simpa using hc2) hn).symm)) ?_
      refine .nil (.tn (.ret (.block_ret (.then_ret (.then_ret (.block_ret (.then_ret ?_)))))))
      exact .dn [] [] (res1 rfl (.tmp rfl)) ⟨rfl, rfl, rfl⟩
    · refine .skip (.block_normal (.tn (.region ?_)))
      refine .w (.bin rfl rfl (BinR.add_i (by first | (constructor <;> omega) | (constructor <;> simp <;> omega)))) ?_
      refine .w (.move rfl) ?_
      refine .nil ?_
      have hn2 : ∀ j, j < x + 1 → (fun c => !fitB c) (pcAt A j).2 = false := fun j hj => (by
        rcases Nat.lt_succ_iff_lt_or_eq.1 hj with h1 | rfl
        · exact hn j h1
        · first | exact hc2 | exact decide_eq_false hc2 | simpa using hc2)
      refine .hd (x + 1) ?_
      exact ⟨⟨by omega, hn2⟩, by omega⟩
  · obtain rfl : x = A.length := by omega
    refine .exit (.then_exit (.then_exit (.block_exit (.tn (.seq (.region ?_))))))
    refine .w (.as (v' := it (ixP (fun c => !fitB c) A)) (.assign rfl) (congrArg it (ix_none hn).symm)) ?_
    refine .nil (.tn (.ret ?_))
    exact .dn [] [] (res1 rfl (.tmp rfl)) ⟨rfl, rfl, rfl⟩

theorem f17Is_spec (u : Value) (A : Pcs) (q : Nat) (tv : Value) (b : B8) :
    Spec Tryd.prog 17 #[u, (.func (.func 49) #[] #[ptr q 0])] [Res.rd u A.length 1 (A.map Prod.fst), Res.all (pcRes A), Res.cells q [tv] 24, Res.rd tv b.length 1 (b.map u8)] []
      (fun r Γ' H' => r = (.bool (hasP (isB b) (bytesP A))) ∧ Γ' = [] ∧ H' = []) := by
  refine Spec.of_args Tryd.func17 rfl Tryd.ntmps17 (by simp) fun w => ?_
  refine .seq (.region ?_)
  refine .w (.assign rfl) ?_
  refine .nil (.tn (.seq (.region ?_)))
  refine .w (.move rfl) ?_
  refine .w (.move rfl) ?_
  refine .c (f41Is_spec u A q tv b) body_41 ?_
  refine .w (.as (v' := .bool (hasP (isB b) (bytesP A))) (.bin rfl rfl BinR.geq_i) (congrArg Value.bool (ix_has _ _))) ?_
  refine .w (.assign rfl) ?_
  refine .nil (.tn (.ret ?_))
  exact .dn [] [] (res1 rfl (.tmp rfl)) ⟨rfl, rfl, rfl⟩

theorem f17Fit_spec (u : Value) (A : Pcs)  :
    Spec Tryd.prog 17 #[u, (.func (.func 18) #[] #[])] [Res.rd u A.length 1 (A.map Prod.fst), Res.all (pcRes A)] []
      (fun r Γ' H' => r = (.bool (hasP (fun c => !fitB c) (bytesP A))) ∧ Γ' = [] ∧ H' = []) := by
  refine Spec.of_args Tryd.func17 rfl Tryd.ntmps17 (by simp) fun w => ?_
  refine .seq (.region ?_)
  refine .w (.assign rfl) ?_
  refine .nil (.tn (.seq (.region ?_)))
  refine .w (.move rfl) ?_
  refine .w (.move rfl) ?_
  refine .c (f41Fit_spec u A ) body_41 ?_
  refine .w (.as (v' := .bool (hasP (fun c => !fitB c) (bytesP A))) (.bin rfl rfl BinR.geq_i) (congrArg Value.bool (ix_has _ _))) ?_
  refine .w (.assign rfl) ?_
  refine .nil (.tn (.ret ?_))
  exact .dn [] [] (res1 rfl (.tmp rfl)) ⟨rfl, rfl, rfl⟩

theorem f40_spec (u : Value) (A : Pcs) (hl : A.length ≤ 1000) (q : Nat) (tv : Value) (b : B8) :
    Spec Tryd.prog 40 #[u, (.func (.func 49) #[] #[ptr q 0])] [Res.all (pcRes A), Res.cells q [tv] 24, Res.rd tv b.length 1 (b.map u8)] [Res.row u A.length 24 1 (A.map Prod.fst)]
      (fun r Γ' H' => True ∧ Γ' = [] ∧ H' = [Res.row r (notP (isB b) A).length 24 1 ((notP (isB b) A).map Prod.fst)]) := by
  refine Spec.of_args Tryd.func40 rfl Tryd.ntmps40 (by simp) fun w => ?_
  refine JC.know (φ := ∀ a ∈ A.map Prod.fst, a.oneCell' = true) (fun w hs => pcs_one (hs.gok _ (.head _))) fun hone => ?_
  refine .seq (.region ?_)
  refine .w (.assign rfl) ?_
  refine .nil (.tn (.seq (.region ?_)))
  refine .w (.move rfl) ?_
  refine .w (.move rfl) ?_
  refine .c (f41Is_spec u A q tv b) body_41 ?_
  refine .w (.assign rfl) ?_
  refine .nil (.tn (.seq (.seq (.region ?_))))
  refine .w (.move rfl) ?_
  refine .w (.bin rfl rfl BinR.eql_i) ?_
  refine .nil (.tn ?_)
  refine .cn rfl (fun hc1 => ?_) (fun hc1 => ?_)
  · have hk : notP (isB b) A = A := by
      rcases ix_is (isB b) A with ⟨_, h⟩ | ⟨i, h, _⟩
      · exact h
      · exact absurd hc1 (by rw [h]; omega)
    refine .seq (.region ?_)
    refine .w (.move rfl) ?_
    refine .w (.assign rfl) ?_
    refine .nil (.tn (.ret (.then_ret ?_)))
    exact .dn [] [Res.row u A.length 24 1 (A.map Prod.fst)] (res1 rfl (.tmp rfl)) ⟨trivial, rfl, by rw [hk]⟩
  · obtain ⟨i, hi1, hi2, hi3⟩ := (ix_is (isB b) A).resolve_left fun h => hc1 h.1
    refine JC.know (φ := ∃ g c, u = .slice (some ⟨g, 0, none⟩) A.length c ∧ A.length ≤ c) (fun w hs => hs.rowForm2 (.head _) (by omega)) fun hu => ?_
    obtain ⟨g, c, hu, hnc⟩ := hu
    subst hu
    refine .skip (.tn (.seq (.seq (.region ?_))))
    refine .w (.as (v' := it (i : Int)) (.move rfl) (congrArg it hi1)) ?_
    refine .w (.asI ((i + 1 : Nat) : Int) (.bin rfl rfl (BinR.add_i (by first | (constructor <;> omega) | (constructor <;> simp <;> omega))))) ?_
    refine .w (.assign rfl) ?_
    refine .nil (.tn (.block ?_))
    refine .lp (ι := Pcs × Nat × Nat) (fun x => x.1.length = A.length ∧ x.2.1 < x.2.2 ∧ x.2.2 ≤ A.length ∧ x.1.take x.2.1 = notP (isB b) (A.take x.2.2) ∧ ∀ k, x.2.2 ≤ k → pcAt x.1 k = pcAt A k) (fun T x => (5, it (x.2.1 : Int)) :: (6, it (x.2.2 : Int)) :: T) (fun T _ => T) (fun T x => Res.row (.slice (some ⟨g, 0, none⟩) A.length c) A.length 24 1 (x.1.map Prod.fst) :: T) (fun x => A.length - x.2.2) (A, i, i + 1) [0, 1, 4, 36, 37, 38, 39, 40, 41] ?_ (fun x hx => ?_) (hE := (by dsimp only; rw [hi1]; repeat (first | exact trivial | refine ⟨by first | rfl | (simp; done), ?_⟩)))
    · exact ⟨rfl, by dsimp only; omega, by dsimp only; omega, hi3.symm, fun _ _ => rfl⟩
    obtain ⟨zs, i, j⟩ := x
    obtain ⟨hz1, hz2, hz4, hz3, hz5⟩ := hx
    dsimp only at hz1 hz2 hz3 hz4 hz5 ⊢
    refine .seq (.seq (.region ?_))
    refine .w (.move rfl) ?_
    refine .w (.move rfl) ?_
    refine .w (.len Tryd.underlying23 rfl) ?_
    refine .w (.bin rfl rfl BinR.lss_i) ?_
    refine .nil (.tn ?_)
    refine .cn rfl (fun hc2 => ?_) (fun hc2 => ?_)
    · refine .skip (.tn (.seq (.block (.seq (.region ?_)))))
      refine .w (.move rfl) ?_
      refine .w (.move rfl) ?_
      refine .w (.ix1 Tryd.underlying23 sz_24 rfl rfl) ?_
      refine .w (.ld one_24 rfl (hj := by exact (pc_get (by omega)).trans (congrArg (fun x : Value × B8 => some x.1) (hz5 _ (Nat.le_refl _))))) ?_
      refine .w (.assign rfl) ?_
      refine .nil (.tn (.seq (.region ?_)))
      refine JO.open (r := Res.rd (pcAt A j).1 (pcAt A j).2.length 1 ((pcAt A j).2.map u8)) (by repeat (first | exact List.Mem.head _ | refine List.Mem.tail _ ?_)) (pc_res (by omega)) ?_
      refine .w (.move rfl) ?_
      refine .w (.move rfl) ?_
      refine JO.callF (f49_spec q tv b (pcAt A j).1 (pcAt A j).2) body_49 rfl rfl rfl (by repeat (first | exact Picks.nil _ | apply Picks.cons | exact Pull.here _ _ | apply Pull.there)) (by repeat (first | exact Lends.nil _ | apply Lends.cons | exact Lend.same _ _ | exact Lend.row _ _ _ _ _ _ (by decide) | apply Lend.there)) (by rintro _ _ _ ⟨_, h, _⟩; exact h) (by decide) ?_
      rintro _ _ ⟨_, ⟨rfl, _, rfl⟩, hH⟩
      simp only [List.cons_append, List.nil_append] at hH; subst hH
      refine .w (.not rfl) ?_
      refine .nil (.tn ?_)
      refine .cn rfl (fun hc3 => ?_) (fun hc3 => ?_)
      · have hp : (isB b) (pcAt A j).2 = false := by first | exact decide_eq_false hc3 | exact hc3 | simpa using hc3
        have hkeep : notP (isB b) (A.take (j + 1)) = notP (isB b) (A.take j) ++ [pcAt A j] := by rw [not_succ (by omega), hp]; rfl
        refine .seq (.region ?_)
        refine .w (.move rfl) ?_
        refine .w (.move rfl) ?_
        refine .w (.move rfl) ?_
        refine .w (.ix1 Tryd.underlying23 sz_24 rfl rfl) ?_
        refine .sr1 sz_24 ?_ (h1 := hone _ (List.mem_map.2 ⟨_, pc_mem (by omega), rfl⟩))
        rw [← List.map_set]
        refine .nil (.tn (.region ?_))
        refine .w (.move rfl) ?_
        refine .w (.asI ((i + 1 : Nat) : Int) (.bin rfl rfl (BinR.add_i (by first | (constructor <;> omega) | (constructor <;> simp <;> omega))))) ?_
        refine .w (.assign rfl) ?_
        refine .nil (.block_normal (.tn (.region ?_)))
        refine .w (.move rfl) ?_
        refine .w (.asI ((j + 1 : Nat) : Int) (.bin rfl rfl (BinR.add_i (by first | (constructor <;> omega) | (constructor <;> simp <;> omega))))) ?_
        refine .w (.assign rfl) ?_
        refine .nil ?_
        refine .hd (zs.set i (pcAt A j), i + 1, j + 1) ?_
        refine ⟨⟨by simp [hz1], by dsimp only; omega, by dsimp only; omega, ?_, fun k hk => ?_⟩, by dsimp only; omega⟩
        · dsimp only
          first | rw [pc_set_take (by omega), hz3, hkeep] | rw [hz3, hkeep]
        · dsimp only at hk ⊢
          first | exact hz5 k (by omega) | (rw [pcAt, List.getD_eq_getElem?_getD, List.getElem?_set_ne (by omega), ← List.getD_eq_getElem?_getD]; exact hz5 k (by omega))
      · have hp : (isB b) (pcAt A j).2 = true := by first | exact decide_eq_true hc3 | exact hc3 | simpa using hc3
        have hkeep : notP (isB b) (A.take (j + 1)) = notP (isB b) (A.take j) := by rw [not_succ (by omega), hp]; simp
        refine .skip (.block_normal (.tn (.region ?_)))
        refine .w (.move rfl) ?_
        refine .w (.asI ((j + 1 : Nat) : Int) (.bin rfl rfl (BinR.add_i (by first | (constructor <;> omega) | (constructor <;> simp <;> omega))))) ?_
        refine .w (.assign rfl) ?_
        refine .nil ?_
        refine .hd (zs, i, j + 1) ?_
        refine ⟨⟨by simp [hz1], by dsimp only; omega, by dsimp only; omega, ?_, fun k hk => ?_⟩, by dsimp only; omega⟩
        · dsimp only
          first | rw [pc_set_take (by omega), hz3, hkeep] | rw [hz3, hkeep]
        · dsimp only at hk ⊢
          first | exact hz5 k (by omega) | (rw [pcAt, List.getD_eq_getElem?_getD, List.getElem?_set_ne (by omega), ← List.getD_eq_getElem?_getD]; exact hz5 k (by omega))
    · obtain rfl : j = A.length := by omega
      rw [List.take_length] at hz3
      refine .exit (.then_exit (.then_exit (.block_exit (.tn (.seq (.region ?_))))))
      refine .w (.move rfl) ?_
      refine .w (.move rfl) ?_
      refine JO.v (Yv.cutSl Tryd.underlying23 sz_24 rfl rfl (by omega) (by omega) (by omega)) (by decide) ?_
      refine JO.clearRow (v := (.slice (some ⟨g, 0, none⟩) A.length c)) (m := A.length - i) (o := 0 + i * 1) rfl Tryd.underlying23 info_24 rfl (by decide) rfl (by omega) (by repeat (first | exact Upd.here _ _ _ | apply Upd.there)) (by omega) (by omega) ?_
      refine .nil (.tn (.seq (.region ?_)))
      refine .w (.move rfl) ?_
      refine .w (.move rfl) ?_
      refine .cr i Tryd.underlying23 sz_24 (fun v41 => ?_)
      rw [row_spl (by omega), hz3]
      refine .w (.assign rfl) ?_
      refine .nil (.tn (.ret ?_))
      exact .dn [] [Res.row _ (notP (isB b) A).length 24 1 ((notP (isB b) A).map Prod.fst)] (res1 rfl (.tmp rfl)) ⟨trivial, rfl, rfl⟩

theorem f37N_spec (p : Nat) (wv : Value) (u : Value) (b : B8) :
    Spec Tryd.prog 37 #[(ptr p 0), u] [Res.cells p [wv, .map none] 41, Res.rd u b.length 1 (b.map u8)] []
      (fun r Γ' H' => r = .bool false ∧ Γ' = [] ∧ H' = []) := by
  refine Spec.of_args Tryd.func37 rfl Tryd.ntmps37 (by simp) fun w => ?_
  refine .seq (.region ?_)
  refine .w (.assign rfl) ?_
  refine .nil (.tn (.seq ?_))
  refine JC.draw (.one 0 (.one 1 (.one 2 (.one 3 (.one 4 (.one 5 (.one 6 (.one 7 .nil)))))))) (fun i => ([] : List Nat).contains i) (fun i => ([] : List Nat).contains i) (fun i => ([0, 1, 2, 4, 5, 7] : List Nat).contains i) mixed (by kernel_rfl) (by decide) (by kernel_rfl) ?_
  refine .uw rfl (.move rfl) ?_
  refine .uw rfl (.nilCheck rfl) ?_
  refine .uw rfl (.fieldAddr fa_41_1 rfl) ?_
  refine .w rfl (.ld one_39 rfl) ?_
  refine .uw rfl (.move rfl) ?_
  refine .uw rfl (.conv_str Tryd.underlying24 Tryd.underlying5 Tryd.underlying9 rfl rfl (by repeat (first | exact Lend.same _ _ | exact Lend.row _ _ _ _ _ _ (by decide) | apply Lend.there))) ?_
  refine .w rfl (.lkNil b Tryd.underlying39 mkey_39 zf_4) ?_
  refine .uw rfl (.assign rfl) ?_
  refine .nil (.tn (.ret ?_))
  exact .dn [] [] (res1 rfl (.tmp rfl)) ⟨rfl, rfl, rfl⟩

theorem f37M_spec (p : Nat) (wv : Value) (a : Nat) (m : MM B8 Bool) (u : Value) (b : B8) :
    Spec Tryd.prog 37 #[(ptr p 0), u] [Res.cells p [wv, .map (some a)] 41, mpR a stK blV m, Res.rd u b.length 1 (b.map u8)] []
      (fun r Γ' H' => r = .bool (wasB m b) ∧ Γ' = [] ∧ H' = []) := by
  refine Spec.of_args Tryd.func37 rfl Tryd.ntmps37 (by simp) fun w => ?_
  refine .seq (.region ?_)
  refine .w (.assign rfl) ?_
  refine .nil (.tn (.seq ?_))
  refine JC.draw (.one 0 (.one 1 (.one 2 (.one 3 (.one 4 (.one 5 (.one 6 (.one 7 .nil)))))))) (fun i => ([] : List Nat).contains i) (fun i => ([] : List Nat).contains i) (fun i => ([0, 1, 2, 4, 5, 7] : List Nat).contains i) mixed (by kernel_rfl) (by decide) (by kernel_rfl) ?_
  refine .uw rfl (.move rfl) ?_
  refine .uw rfl (.nilCheck rfl) ?_
  refine .uw rfl (.fieldAddr fa_41_1 rfl) ?_
  refine .w rfl (.ld one_39 rfl) ?_
  refine .uw rfl (.move rfl) ?_
  refine .uw rfl (.conv_str Tryd.underlying24 Tryd.underlying5 Tryd.underlying9 rfl rfl (by repeat (first | exact Lend.same _ _ | exact Lend.row _ _ _ _ _ _ (by decide) | apply Lend.there))) ?_
  refine .w rfl (.as (v' := .bool (wasB m b)) (.lk b Tryd.underlying39 mkey_39 zf_4) (by unfold wasB; cases m.get b <;> rfl)) ?_
  refine .uw rfl (.assign rfl) ?_
  refine .nil (.tn (.ret ?_))
  exact .dn [] [] (res1 rfl (.tmp rfl)) ⟨rfl, rfl, rfl⟩

theorem f37A_spec (p : Nat) (wv mv : Value) (m : MM B8 Bool) (hm : DnOk mv m) (u : Value) (b : B8) : Spec Tryd.prog 37 #[(ptr p 0), u] [Res.cells p [wv, mv] 41, dnR mv m, Res.rd u b.length 1 (b.map u8)] [] (fun r Γ' H' => r = .bool (wasB m b) ∧ Γ' = [] ∧ H' = []) := by
  rcases hm with ⟨rfl, rfl⟩ | ⟨a, rfl⟩
  · exact (f37N_spec p wv u b).gsub (by intro r hr; simp only [List.mem_cons, List.not_mem_nil, or_false] at hr ⊢; rcases hr with rfl | rfl <;> simp)
  · exact f37M_spec p wv a m u b

theorem f39_spec (u : Value) (A : Pcs) (hA : A.length ≤ 100000) (hS : ∀ b ∈ bytesP A, b.length ≤ 1000000) :
    Spec Tryd.prog 39 #[u] [Res.rd u A.length 1 (A.map Prod.fst), Res.all (pcRes A)] []
      (fun r Γ' H' => ∃ B, bytesP B = bytesP A ∧ Γ' = [] ∧ H' = [Res.row r B.length 24 1 (B.map Prod.fst), Res.sep (rowsP B 5)]) := by
  refine Spec.of_args Tryd.func39 rfl Tryd.ntmps39 (by simp) fun w => ?_
  refine .seq (.region ?_)
  refine .w (.assign rfl) ?_
  refine .nil (.tn (.seq (.region ?_)))
  refine .w (.assign rfl) ?_
  refine .nil (.tn (.seq (.seq (.region ?_))))
  refine JO.nilRow 24 1 ?_
  refine JO.sp0 ?_
  refine .w (.move rfl) ?_
  refine .w (.len Tryd.underlying23 rfl) ?_
  refine .w (.move rfl) ?_
  refine .nil (.tn (.block ?_))
  refine .lp (ι := Nat × Value × Pcs) (fun x => x.1 ≤ A.length ∧ bytesP x.2.2 = (bytesP A).take x.1) (fun T x => (8, it (x.1 : Int)) :: (3, x.2.1) :: T) (fun T _ => T) (fun T x => Res.row x.2.1 x.2.2.length 24 1 (x.2.2.map Prod.fst) :: Res.sep (rowsP x.2.2 5) :: T) (fun x => A.length - x.1) (0, .slice none 0 0, []) [2, 6, 7, 18] ?_ (fun x hx => ?_)
  · exact ⟨Nat.zero_le _, rfl⟩
  obtain ⟨k, vo, B⟩ := x
  obtain ⟨hk, hB⟩ := hx
  dsimp only at hk hB ⊢
  have hBl : B.length = k := by have := congrArg List.length hB; rw [bytesP_len, List.length_take, bytesP_len] at this; omega
  refine .seq (.region ?_)
  refine .w (.bin rfl rfl BinR.lss_i) ?_
  refine .nil (.tn (.seq ?_))
  refine .cn rfl (fun hc1 => ?_) (fun hc1 => ?_)
  · refine .skip (.tn (.seq (.block (.seq (.region ?_)))))
    refine JO.open (r := Res.rd (pcAt A k).1 (pcAt A k).2.length 1 ((pcAt A k).2.map u8)) (by repeat (first | exact List.Mem.head _ | refine List.Mem.tail _ ?_)) (pc_res (by omega)) ?_
    refine .w (.ix1 Tryd.underlying23 sz_24 rfl rfl) ?_
    refine .w (.ld one_24 rfl (hj := by first | exact pc_get (by omega) | rfl | exact tab_get (by first | omega | (simp; omega)) | exact gm (d := 0) (by first | omega | (simp; omega)))) ?_
    refine .w (.assign rfl) ?_
    refine .nil (.tn (.region ?_))
    refine .w (.move rfl) ?_
    refine .w (.move rfl) ?_
    refine .cb (f38_spec (pcAt A k).1 (pcAt A k).2.length ((pcAt A k).2.map u8) (by have := hS _ (List.mem_map.2 ⟨_, pc_mem (l := A) (k := k) (by omega), rfl⟩); omega) one_u8s) body_38 ?_
    rintro v14 _ ⟨_, _, rfl⟩
    refine .ap ?_
    refine JO.know (φ := v14.oneCell' = true) (fun w hs => (by obtain ⟨A, c, rfl, _⟩ := row_rd (by decide) (Res.row_ok.1 (hs.hok _ (.head _))); rfl)) fun hv14 => ?_
    refine .l1 Tryd.underlying23 info_24 (fun v15 => ?_) (h1 := (one_sing hv14))
    refine .ap Tryd.underlying23 info_24 (fun v16 => ?_) (hone := (one_sing hv14))
    rw [snoc_row (b := (pcAt A k).2)]
    refine .w (.assign rfl) ?_
    refine .nil (.block_normal (.tn (.region ?_)))
    refine .w (.bin rfl rfl (BinR.add_i (by first | (constructor <;> omega) | (constructor <;> simp <;> omega)))) ?_
    refine .w (.move rfl) ?_
    refine .nil ?_
    refine .rs (A := [Res.row v14 (pcAt A k).2.length 5 1 ((pcAt A k).2.map u8)]) (B := rowsP B 5) (L := rowsP (B ++ [(v14, (pcAt A k).2)]) 5) (by simp [rowsP]) ?_
    refine .hd (k + 1, v16, B ++ [(v14, (pcAt A k).2)]) ?_
    exact ⟨⟨by dsimp only; omega, by dsimp only; rw [bytesP_get (by omega), ← hB]; simp [bytesP]⟩, by dsimp only; omega⟩
  · have he : k = A.length := by omega
    subst he
    rw [show (bytesP A).take A.length = bytesP A from List.take_of_length_le (by rw [bytesP_len]; omega)] at hB
    refine .exit (.then_exit (.then_exit (.block_exit (.tn (.seq (.region ?_))))))
    refine .w (.move rfl) ?_
    refine .w (.assign rfl) ?_
    refine .nil (.tn (.ret ?_))
    exact .dn [] [Res.row vo B.length 24 1 (B.map Prod.fst), Res.sep (rowsP B 5)] (res1 rfl (.tmp rfl)) ⟨B, hB, rfl, rfl⟩

theorem f15_spec (p : Nat) (wv mv : Value) (A : Pcs) (n : Int) (hA : A.length ≤ 100000) (hS : ∀ b ∈ bytesP A, b.length ≤ 1000000) :
    Spec Tryd.prog 15 #[(ptr p 0), (it n)] [Res.cells p [wv, mv] 41, Res.rd wv A.length 1 (A.map Prod.fst), Res.all (pcRes A)] []
      (fun r Γ' H' => ∃ B, bytesP B = (bytesP A).take (max 0 (min n (A.length : Int))).toNat ∧ Γ' = [] ∧ H' = [Res.row r B.length 24 1 (B.map Prod.fst), Res.sep (rowsP B 5)]) := by
  refine Spec.of_args Tryd.func15 rfl Tryd.ntmps15 (by simp) fun w => ?_
  obtain ⟨q, hq⟩ : ∃ q, (max 0 (min n (A.length : Int))).toNat = q := ⟨_, rfl⟩
  have hql : q ≤ A.length := by omega
  refine .seq (.region ?_)
  refine .w (.assign rfl) ?_
  refine JO.cutRd (v := wv) 0 q (by repeat (first | exact List.Mem.head _ | refine List.Mem.tail _ ?_)) (by omega) (by omega) ?_
  rw [rd_preP hql]
  refine JO.allOf A A (A.take q) (by repeat (first | exact List.Mem.head _ | refine List.Mem.tail _ ?_)) (by repeat (first | exact List.Mem.head _ | refine List.Mem.tail _ ?_)) (fun z hz => .inl (List.mem_of_mem_take hz)) ?_
  refine .nil (.tn (.seq ?_))
  refine JC.draw (.one 0 (.one 1 (.one 2 (.one 3 (.one 4 (.one 5 (.one 6 (.one 7 (.one 8 (.one 9 (.one 10 (.one 11 (.one 12 (.one 13 (.one 14 .nil))))))))))))))) (fun i => ([13] : List Nat).contains i) (fun i => ([13] : List Nat).contains i) (fun i => ([0, 1, 2, 4, 5, 6, 7, 9, 10, 11, 12, 14] : List Nat).contains i) mixed (by kernel_rfl) (by decide) (by kernel_rfl) ?_
  refine .uw rfl (.move rfl) ?_
  refine .uw rfl (.nilCheck rfl) ?_
  refine .uw rfl (.fieldAddr fa_41_0 rfl) ?_
  refine .w rfl (.ld one_23 rfl) ?_
  refine .uw rfl (.move rfl) ?_
  refine .uw rfl (.move rfl) ?_
  refine .uw rfl (.nilCheck rfl) ?_
  refine .uw rfl (.fieldAddr fa_41_0 rfl) ?_
  refine .w rfl (.ld one_23 rfl) ?_
  refine .uw rfl (.len Tryd.underlying23 rfl) ?_
  refine .uw rfl (.min_i rfl rfl) ?_
  refine .uw rfl (.asI (q : Int) (.max_i rfl rfl)) ?_
  refine .uw rfl (.cutRd (l := 0) (h := q) Tryd.underlying23 sz_24 rfl (by repeat (first | exact List.Mem.head _ | refine List.Mem.tail _ ?_)) rfl ⟨_, rfl⟩ (by first | (simp; done) | omega | (simp; omega)) (by first | (simp; done) | omega | (simp; omega))) ?_
  refine .mw rfl (.cb (f39_spec (cutV 1 wv 0 q) (A.take q) (by rw [List.length_take]; omega) (fun b hb => hS b (by rw [bytesP, List.map_take] at hb; exact List.mem_of_mem_take hb))) body_39 (h0 := by rintro _ _ _ ⟨_, _, h, _⟩; exact h)) ?_
  rintro v18 _ _ ⟨_, ⟨B, hB, _, rfl⟩, hΓ, hH⟩
  simp only [List.cons_append, List.nil_append] at hH; subst hΓ hH
  refine kp ?_
  refine .uw rfl (.assign rfl) ?_
  refine .nil (.tn (.ret ?_))
  exact .dn [] [Res.row v18 B.length 24 1 (B.map Prod.fst), Res.sep (rowsP B 5)] (res1 rfl (.tmp rfl)) ⟨B, by rw [hB, hq, bytesP, List.map_take]; rfl, rfl, rfl⟩

theorem f14_spec (p : Nat) (wv mv : Value) (m : MM B8 Bool) (hm : DnOk mv m) (A : Pcs) (hA : A.length ≤ 100000) (u : Value) (b : B8) :
    Spec Tryd.prog 14 #[(ptr p 0), u] [Res.all (pcRes A), Res.rd u b.length 1 (b.map u8)] [Res.cells p [wv, mv] 41, dnR mv m, Res.row wv A.length 24 1 (A.map Prod.fst)]
      (fun r Γ' H' => ∃ wv' N, bytesP N = (addN (bytesP A) (wasB m) b) ∧ r = it (addE (bytesP A) (wasB m) b) ∧ Γ' = [] ∧ H' = [Res.cells p [wv', mv] 41, dnR mv m, Res.row wv' (A ++ N).length 24 1 ((A ++ N).map Prod.fst), Res.sep (rowsP N 5)]) := by
  refine Spec.of_args Tryd.func14 rfl Tryd.ntmps14 (by simp) fun w => ?_
  refine JC.know (φ := u.oneCell' = true) (fun w hs => by obtain ⟨A, c, rfl, _⟩ := hs.rdForm (.tail _ (.head _)); rfl) fun hu => ?_
  refine .seq (.region ?_)
  refine .w (.assign rfl) ?_
  refine .nil (.tn (.seq (.block (.seq (.region ?_)))))
  refine .w (.move rfl) ?_
  refine .c (f19_spec u b) body_19 ?_
  refine .w (.not rfl) ?_
  refine .w (.assign rfl) ?_
  refine .nil (.tn ?_)
  refine .cn rfl (fun hc1 => ?_) (fun hc1 => ?_)
  · refine .seq (.region ?_)
    refine .w (.assign rfl) ?_
    refine .nil (.tn (.ret (.block_ret (.then_ret ?_))))
    have he : (addE (bytesP A) (wasB m) b) = 2 := by rw [addE, if_pos hc1]
    refine .sp0 ?_
    exact .dn [] [Res.cells p [wv, mv] 41, dnR mv m, Res.row wv A.length 24 1 (A.map Prod.fst), Res.sep []] (res1 rfl (.tmp rfl)) ⟨wv, [], (by rw [addN_0 he (by decide)]; rfl), (by rw [he]), rfl, (by rw [List.append_nil]; rfl)⟩
  · refine .seq ?_
    refine JC.draw (.one 0 (.one 1 (.one 2 (.one 3 (.one 4 (.one 5 (.one 6 (.one 7 (.one 8 (.one 9 (.one 10 (.one 11 (.one 12 .nil))))))))))))) (fun i => ([10] : List Nat).contains i) (fun i => ([2, 9, 10] : List Nat).contains i) (fun i => ([0, 1, 3, 4, 5, 6, 8, 11, 12] : List Nat).contains i) mixed (by kernel_rfl) (by decide) (by kernel_rfl) ?_
    refine .uw rfl (.move rfl) ?_
    refine .uw rfl (.move rfl) ?_
    refine .mw rfl (.c (f37A_spec p wv mv m hm u b) body_37) ?_
    rintro _ _ _ ⟨rfl, rfl, rfl⟩
    refine kp ?_
    refine .uw rfl (.move rfl) ?_
    refine JR.gsplit (g := 12) rfl (fun hg11 => ?_) (fun hg11 => ?_)
    · have hg11' := hg11
      try simp only [decide_eq_true_eq, decide_eq_false_iff_not, Bool.not_eq_true', Bool.not_eq_false', ne_eq, Decidable.not_not, Bool.not_eq_true, Bool.and_eq_true, Bool.or_eq_true, BitVec.reduceToNat] at hg11'
      refine JR.gf (g := 13) rfl rfl rfl rfl hg11 (by decide) ?_
      refine JR.gf (g := 13) rfl rfl rfl rfl hg11 (by decide) ?_
      refine JR.gf (g := 13) rfl rfl rfl rfl hg11 (by decide) ?_
      refine JR.gf (g := 13) rfl rfl rfl rfl hg11 (by decide) ?_
      refine JR.gf (g := 13) rfl rfl rfl rfl hg11 (by decide) ?_
      refine JR.gfm (g := 13) rfl rfl rfl rfl hg11 (by decide) ?_ ?_
      · exact ⟨Subs.sub (by repeat (first | exact Subs.nil _ | apply Subs.cons | exact List.Mem.head _ | refine List.Mem.tail _ ?_)), .inr (St.keep (by repeat (first | exact Subs.nil _ | apply Subs.cons | exact List.Mem.head _ | refine List.Mem.tail _ ?_)) (by repeat (first | exact Picks.nil _ | apply Picks.cons | exact Pull.here _ _ | apply Pull.there)))⟩
      refine JR.gfm (g := 13) rfl rfl rfl rfl hg11 (by decide) ?_ ?_
      · exact ⟨Subs.sub (by repeat (first | exact Subs.nil _ | apply Subs.cons | exact List.Mem.head _ | refine List.Mem.tail _ ?_)), .inl rfl⟩
      refine JR.u rfl rfl rfl (Yv.pick1 rfl hg11 rfl) (by decide) ?_
      refine .uw rfl (.assign rfl) ?_
      refine .nil (.tn ?_)
      refine .k1 rfl rfl ?_
      refine .seq (.region ?_)
      refine .w (.assign rfl) ?_
      refine .nil (.tn (.ret (.block_ret (.then_ret ?_))))
      have he : (addE (bytesP A) (wasB m) b) = 13 := by rw [addE, if_neg (by simp [hc1]), if_pos (by simp [hg11'])]
      refine .sp0 ?_
      exact .dn [] [Res.cells p [wv, mv] 41, dnR mv m, Res.row wv A.length 24 1 (A.map Prod.fst), Res.sep []] (res1 rfl (.tmp rfl)) ⟨wv, [], (by rw [addN_0 he (by decide)]; rfl), (by rw [he]), rfl, (by rw [List.append_nil]; rfl)⟩
    · have hg11' := hg11
      try simp only [decide_eq_true_eq, decide_eq_false_iff_not, Bool.not_eq_true', Bool.not_eq_false', ne_eq, Decidable.not_not, Bool.not_eq_true, Bool.and_eq_true, Bool.or_eq_true, BitVec.reduceToNat] at hg11'
      refine JR.ugt (g := 13) rfl rfl rfl rfl rfl hg11 (.move rfl) (by decide) ?_
      refine JR.ugt (g := 13) rfl rfl rfl rfl rfl hg11 (.nilCheck rfl) (by decide) ?_
      refine JR.ugt (g := 13) rfl rfl rfl rfl rfl hg11 (.fieldAddr fa_41_0 rfl) (by decide) ?_
      refine JR.vgt (g := 13) rfl rfl rfl rfl rfl hg11 (.ld one_23 rfl) (by decide) ?_
      refine JR.ugt (g := 13) rfl rfl rfl rfl rfl hg11 (.move rfl) (by decide) ?_
      refine JR.mgt (g := 13) rfl rfl rfl rfl hg11 (.cb (f31_spec u hu) body_31 (h0 := by rintro _ _ _ ⟨_, _, h, _⟩; exact h)) (by decide) ?_
      rintro _ _ _ ⟨_, ⟨q, rfl, _, rfl⟩, hΓ, hH⟩
      simp only [List.cons_append, List.nil_append] at hH; subst hΓ hH
      refine kp ?_
      refine JR.mgt (g := 13) rfl rfl rfl rfl hg11 (.c (f17Is_spec wv A q u b) body_17) (by decide) ?_
      rintro _ _ _ ⟨rfl, rfl, rfl⟩
      refine kp ?_
      refine JR.u rfl rfl rfl (Yv.pick0 rfl hg11 rfl) (by decide) ?_
      refine .uw rfl (.assign rfl) ?_
      refine .nil (.tn ?_)
      refine .cn rfl (fun hc2 => ?_) (fun hc2 => ?_)
      · refine .seq (.region ?_)
        refine .w (.assign rfl) ?_
        refine .nil (.tn (.ret (.block_ret (.then_ret ?_))))
        have he : (addE (bytesP A) (wasB m) b) = 13 := by rw [addE, if_neg (by simp [hc1]), if_pos (by simp [hc2])]
        refine .sp0 ?_
        exact .dn [] [Res.cells p [wv, mv] 41, dnR mv m, Res.row wv A.length 24 1 (A.map Prod.fst), Res.sep []] (res1 rfl (.tmp rfl)) ⟨wv, [], (by rw [addN_0 he (by decide)]; rfl), (by rw [he]), rfl, (by rw [List.append_nil]; rfl)⟩
      · refine .seq (.region ?_)
        refine .w (.move rfl) ?_
        refine .w (.nilCheck rfl) ?_
        refine .w (.fieldAddr fa_41_0 rfl) ?_
        refine .w (.ld one_23 rfl) ?_
        refine .w (.len Tryd.underlying23 rfl) ?_
        refine .w (.bin rfl rfl BinR.geq_i) ?_
        refine .w (.assign rfl) ?_
        refine .nil (.tn ?_)
        refine .cn rfl (fun hc3 => ?_) (fun hc3 => ?_)
        · refine .seq (.region ?_)
          refine .w (.assign rfl) ?_
          refine .nil (.tn (.ret (.block_ret (.then_ret ?_))))
          have he : (addE (bytesP A) (wasB m) b) = 52 := by rw [addE, if_neg (by simp [hc1]), if_neg (by simp [hg11', hc2]), if_pos (by rw [bytesP_len]; omega)]
          refine .sp0 ?_
          exact .dn [] [Res.cells p [wv, mv] 41, dnR mv m, Res.row wv A.length 24 1 (A.map Prod.fst), Res.sep []] (res1 rfl (.tmp rfl)) ⟨wv, [], (by rw [addN_0 he (by decide)]; rfl), (by rw [he]), rfl, (by rw [List.append_nil]; rfl)⟩
        · refine .skip (.block_normal (.tn (.seq ?_)))
          refine JC.draw (.one 0 (.one 1 (.one 2 (.one 3 (.one 4 (.one 5 (.one 6 (.one 7 (.one 8 (.one 9 (.one 10 (.one 11 .nil)))))))))))) (fun i => ([8, 11] : List Nat).contains i) (fun i => ([6, 7, 8, 11] : List Nat).contains i) (fun i => ([0, 1, 2, 3, 5, 9, 10] : List Nat).contains i) mixed (by kernel_rfl) (by decide) (by kernel_rfl) ?_
          refine .uw rfl (.move rfl) ?_
          refine .uw rfl (.move rfl) ?_
          refine .uw rfl (.nilCheck rfl) ?_
          refine .uw rfl (.fieldAddr fa_41_0 rfl) ?_
          refine .w rfl (.ld one_23 rfl) ?_
          refine .uw rfl (.move rfl) ?_
          refine .mw rfl (.cb (f38_spec u b.length (b.map u8) (by have := fit_le hc1; omega) one_u8s) body_38) ?_
          rintro v35 _ _ ⟨_, ⟨_, _, rfl⟩, hΓ, hH⟩
          simp only [List.cons_append, List.nil_append] at hH; subst hΓ hH
          refine kp ?_
          refine JR.know (φ := v35.oneCell' = true) (fun w hs => (by obtain ⟨A, c, rfl, _⟩ := row_rd (by decide) (Res.row_ok.1 (hs.hok _ (.head _))); rfl)) fun hv35 => ?_
          refine .mw rfl (Mv.lit1 Tryd.underlying23 info_24 rfl rfl (one_sing hv35) (by decide) (by decide)) ?_
          rintro v36 _ _ ⟨rfl, rfl⟩
          refine kp ?_
          refine .mw rfl (.ap Tryd.underlying23 info_24 (hone := (one_sing hv35))) ?_
          rintro v37 _ _ ⟨rfl, rfl⟩
          refine kp ?_
          rw [snoc_row (b := b)]
          refine .uw rfl (.nilCheck rfl) ?_
          refine .uw rfl (.fieldAddr fa_41_0 rfl) ?_
          first | refine .mw0 rfl (.s1 sz_23) ?_ | refine .mw0 rfl (.s1s sz_23) ?_ | refine .mw0 rfl (.sr1 sz_23) ?_
          rintro _ _ _ ⟨rfl, rfl⟩
          refine kp ?_
          refine .nil (.tn (.seq (.region ?_)))
          refine .w (.assign rfl) ?_
          refine .nil (.tn (.ret ?_))
          have he : (addE (bytesP A) (wasB m) b) = 0 := by rw [addE, if_neg (by simp [hc1]), if_neg (by simp [hg11', hc2]), if_neg (by rw [bytesP_len]; omega)]
          refine .sp0 ?_
          refine .rs (A := [Res.row v35 b.length 5 1 (b.map u8)]) (B := []) (L := rowsP [(v35, b)] 5) (by simp [rowsP]) ?_
          exact .dn [] [Res.cells p [v37, mv] 41, dnR mv m, Res.row v37 (A ++ [(v35, b)]).length 24 1 ((A ++ [(v35, b)]).map Prod.fst), Res.sep (rowsP [(v35, b)] 5)] (res1 rfl (.tmp rfl)) ⟨v37, [(v35, b)], (by rw [addN, if_pos he]; rfl), (by rw [he]), rfl, rfl⟩

theorem f44_spec (u v : Value) (A : Pcs) (b : B8) :
    Spec Tryd.prog 44 #[u, v] [Res.rd u A.length 1 (A.map Prod.fst), Res.all (pcRes A), Res.rd v b.length 1 (b.map u8)] []
      (fun r Γ' H' => r = .bool (decide (b ∈ bytesP A)) ∧ Γ' = [] ∧ H' = []) := by
  refine Spec.of_args Tryd.func44 rfl Tryd.ntmps44 (by simp) fun w => ?_
  refine JC.know (φ := A.length ≤ 9223372036854775807) (fun w hs => by obtain ⟨_, _, _, _, _, _, h⟩ := hs.rdForm (.head _); unfold maxLen at h; omega) fun hla => ?_
  refine .seq (.region ?_)
  refine .w (.assign rfl) ?_
  refine .nil (.tn (.seq (.seq (.region ?_))))
  refine .w (.assign rfl) ?_
  refine .nil (.tn (.block ?_))
  refine .lp (ι := Nat) (fun x => x ≤ A.length ∧ b ∉ (bytesP A).take x) (fun T x => (5, it (x : Int)) :: T) (fun T _ => T) (fun T _ => T) (fun x => A.length - x) 0 [0, 1] ?_ (fun x hx => ?_)
  · exact ⟨Nat.zero_le _, by simp⟩
  obtain ⟨hx, hn⟩ := hx
  refine .seq (.seq (.region ?_))
  refine .w (.move rfl) ?_
  refine .w (.move rfl) ?_
  refine .w (.len Tryd.underlying23 rfl) ?_
  refine .w (.bin rfl rfl BinR.lss_i) ?_
  refine .nil (.tn ?_)
  refine .cn rfl (fun hc1 => ?_) (fun hc1 => ?_)
  · refine .skip (.tn (.seq (.block (.seq (.region ?_)))))
    refine .w (.move rfl) ?_
    refine .w (.move rfl) ?_
    refine .w (.ix1 Tryd.underlying23 sz_24 rfl rfl) ?_
    refine JO.open (r := Res.rd (pcAt A x).1 (pcAt A x).2.length 1 ((pcAt A x).2.map u8)) (by repeat (first | exact List.Mem.head _ | refine List.Mem.tail _ ?_)) (pc_res (by omega)) ?_
    refine .w (.ld one_24 rfl (hj := by first | exact pc_get (by omega) | rfl | exact tab_get (by first | omega | (simp; omega)) | exact gm (d := 0) (by first | omega | (simp; omega)))) ?_
    refine .w (.move rfl) ?_
    refine .c (f11_spec _ v (pcAt A x).2 b) body_11 ?_
    refine .nil (.tn ?_)
    refine .cn rfl (fun hc2 => ?_) (fun hc2 => ?_)
    · refine .seq (.region ?_)
      refine .w (.assign rfl) ?_
      refine .nil (.tn (.ret (.block_ret (.then_ret (.then_ret (.block_ret (.then_ret ?_)))))))
      exact .dn [] [] (res1 rfl (.tmp rfl)) ⟨congrArg Value.bool (decide_eq_true (List.mem_map.2 ⟨_, pc_mem (by omega), hc2⟩)).symm, rfl, rfl⟩
    · refine .skip (.block_normal (.tn (.region ?_)))
      refine .w (.move rfl) ?_
      refine .w (.bin rfl rfl (BinR.add_i (by first | (constructor <;> omega) | (constructor <;> simp <;> omega)))) ?_
      refine .w (.assign rfl) ?_
      refine .nil ?_
      have hn2 : b ∉ (bytesP A).take (x + 1) := by rw [bytesP_get (by omega), List.mem_append, List.mem_singleton]; exact fun h => h.elim hn (fun e => hc2 e.symm)
      refine .hd (x + 1) ?_
      exact ⟨⟨by omega, hn2⟩, by omega⟩
  · obtain rfl : x = A.length := by omega
    rw [show (bytesP A).take A.length = bytesP A from List.take_of_length_le (by rw [bytesP_len]; omega)] at hn
    refine .exit (.then_exit (.then_exit (.block_exit (.tn (.seq (.region ?_))))))
    refine .w (.assign rfl) ?_
    refine .nil (.tn (.ret ?_))
    exact .dn [] [] (res1 rfl (.tmp rfl)) ⟨congrArg Value.bool (decide_eq_false hn).symm, rfl, rfl⟩

theorem f5_spec (u : Value) (L : Pcs) :
    Spec Tryd.prog 5 #[u] [Res.rd u L.length 1 (L.map Prod.fst), Res.all (pcRes L)] []
      (fun r Γ' H' => r = .bool (decide (shB (bytesP L))) ∧ Γ' = [] ∧ H' = []) := by
  refine Spec.of_args Tryd.func5 rfl Tryd.ntmps5 (by simp) fun w => ?_
  refine JC.know (φ := L.length ≤ 9223372036854775807) (fun w hs => by obtain ⟨_, _, _, _, _, _, h⟩ := hs.rdForm (.head _); unfold maxLen at h; omega) fun hla => ?_
  have hbl := bytesP_len L
  refine .seq (.region ?_)
  refine .w (.assign rfl) ?_
  refine .nil (.tn (.seq (.seq (.region ?_))))
  refine .w (.move rfl) ?_
  refine .w (.len Tryd.underlying23 rfl) ?_
  refine .w (.bin rfl rfl BinR.gtr_i) ?_
  refine .nil (.tn ?_)
  refine .cn rfl (fun hc1 => ?_) (fun hc1 => ?_)
  · refine .seq (.region ?_)
    refine .w (.assign rfl) ?_
    refine .nil (.tn (.ret (.then_ret ?_)))
    exact .dn [] [] (res1 rfl (.tmp rfl)) ⟨congrArg Value.bool (decide_eq_false (fun h => by have := h.1; omega)).symm, rfl, rfl⟩
  · refine .skip (.tn (.seq (.seq (.region ?_))))
    refine .w (.assign rfl) ?_
    refine .nil (.tn (.block ?_))
    refine .lp (ι := Nat) (fun x => x ≤ L.length ∧ ∀ b ∈ (bytesP L).take x, b.length ≤ 1100) (fun T x => (3, it (x : Int)) :: T) (fun T _ => T) (fun T _ => T) (fun x => L.length - x) 0 [0] ?_ (fun x hx => ?_)
    · exact ⟨Nat.zero_le _, by simp⟩
    obtain ⟨hx, hn⟩ := hx
    refine .seq (.seq (.region ?_))
    refine .w (.move rfl) ?_
    refine .w (.move rfl) ?_
    refine .w (.len Tryd.underlying23 rfl) ?_
    refine .w (.bin rfl rfl BinR.lss_i) ?_
    refine .nil (.tn ?_)
    refine .cn rfl (fun hc2 => ?_) (fun hc2 => ?_)
    · refine .skip (.tn (.seq (.block (.seq (.region ?_)))))
      refine JO.open (r := Res.rd (pcAt L x).1 (pcAt L x).2.length 1 ((pcAt L x).2.map u8)) (by repeat (first | exact List.Mem.head _ | refine List.Mem.tail _ ?_)) (pc_res (by omega)) ?_
      refine .w (.move rfl) ?_
      refine .w (.move rfl) ?_
      refine .w (.ix1 Tryd.underlying23 sz_24 rfl rfl) ?_
      refine .w (.ld one_24 rfl (hj := by first | exact pc_get (by omega) | rfl | exact tab_get (by first | omega | (simp; omega)) | exact gm (d := 0) (by first | omega | (simp; omega)))) ?_
      refine .w (.len Tryd.underlying24 rfl) ?_
      refine .w (.bin rfl rfl BinR.gtr_i) ?_
      refine .nil (.tn ?_)
      refine .cn rfl (fun hc3 => ?_) (fun hc3 => ?_)
      · refine .seq (.region ?_)
        refine .w (.assign rfl) ?_
        refine .nil (.tn (.ret (.block_ret (.then_ret (.then_ret (.block_ret (.then_ret ?_)))))))
        exact .dn [] [] (res1 rfl (.tmp rfl)) ⟨congrArg Value.bool (decide_eq_false (fun h => by have := h.2 _ (List.mem_map.2 ⟨_, pc_mem (l := L) (k := x) (by omega), rfl⟩); omega)).symm, rfl, rfl⟩
      · refine .skip (.block_normal (.tn (.region ?_)))
        refine .w (.move rfl) ?_
        refine .w (.bin rfl rfl (BinR.add_i (by first | (constructor <;> omega) | (constructor <;> simp <;> omega)))) ?_
        refine .w (.assign rfl) ?_
        refine .nil ?_
        have hn2 : ∀ b ∈ (bytesP L).take (x + 1), b.length ≤ 1100 := by
          rw [bytesP_get (by omega)]
          intro b hb
          rcases List.mem_append.1 hb with h | h
          · exact hn b h
          · rw [List.mem_singleton] at h; subst h; omega
        refine .hd (x + 1) ?_
        exact ⟨⟨by omega, hn2⟩, by omega⟩
    · obtain rfl : x = L.length := by omega
      rw [show (bytesP L).take L.length = bytesP L from List.take_of_length_le (by omega)] at hn
      refine .exit (.then_exit (.then_exit (.block_exit (.tn (.seq (.region ?_))))))
      refine .w (.assign rfl) ?_
      refine .nil (.tn (.ret ?_))
      exact .dn [] [] (res1 rfl (.tmp rfl)) ⟨congrArg Value.bool (decide_eq_true ⟨by omega, hn⟩).symm, rfl, rfl⟩

theorem f20_spec (u : Value) (L : Pcs) :
    Spec Tryd.prog 20 #[u] [Res.rd u L.length 1 (L.map Prod.fst), Res.all (pcRes L)] []
      (fun r Γ' H' => r = .bool (twB (bytesP L)) ∧ Γ' = [] ∧ H' = []) := by
  refine Spec.of_args Tryd.func20 rfl Tryd.ntmps20 (by simp) fun w => ?_
  refine JC.know (φ := L.length ≤ 9223372036854775807) (fun w hs => by obtain ⟨_, _, _, _, _, _, h⟩ := hs.rdForm (.head _); unfold maxLen at h; omega) fun hla => ?_
  refine .seq (.region ?_)
  refine .w (.assign rfl) ?_
  refine .nil (.tn (.seq (.seq (.region ?_))))
  refine .w (.move rfl) ?_
  refine .w (.len Tryd.underlying23 rfl) ?_
  refine .w (.move rfl) ?_
  refine .nil (.tn (.block ?_))
  refine .lp (ι := Nat) (fun x => x ≤ L.length ∧ ((bytesP L).take x).Nodup) (fun T x => (7, it (x : Int)) :: T) (fun T _ => T) (fun T _ => T) (fun x => L.length - x) 0 [0, 5, 6] ?_ (fun x hx => ?_)
  · exact ⟨Nat.zero_le _, by simp⟩
  obtain ⟨hx, hn⟩ := hx
  refine .seq (.region ?_)
  refine .w (.bin rfl rfl BinR.lss_i) ?_
  refine .nil (.tn (.seq ?_))
  refine .cn rfl (fun hc1 => ?_) (fun hc1 => ?_)
  · refine .skip (.tn (.seq (.block (.seq (.region ?_)))))
    refine JO.open (r := Res.rd (pcAt L x).1 (pcAt L x).2.length 1 ((pcAt L x).2.map u8)) (by repeat (first | exact List.Mem.head _ | refine List.Mem.tail _ ?_)) (pc_res (by omega)) ?_
    refine .w (.move rfl) ?_
    refine .w (.ix1 Tryd.underlying23 sz_24 rfl rfl) ?_
    refine .w (.ld one_24 rfl (hj := by first | exact pc_get (by omega) | rfl | exact tab_get (by first | omega | (simp; omega)) | exact gm (d := 0) (by first | omega | (simp; omega)))) ?_
    refine .w (.assign rfl) ?_
    refine JO.cutRd (v := u) 0 x (by repeat (first | exact List.Mem.head _ | refine List.Mem.tail _ ?_)) (by omega) (by omega) ?_
    rw [rd_preP hx]
    refine JO.allOf L L (L.take x) (by repeat (first | exact List.Mem.head _ | refine List.Mem.tail _ ?_)) (by repeat (first | exact List.Mem.head _ | refine List.Mem.tail _ ?_)) (fun z hz => .inl (List.mem_of_mem_take hz)) ?_
    refine JO.know (φ := (pcAt L x).1.oneCell' = true) (fun w hs => pcs_one (hs.gok (Res.all (pcRes L)) (by repeat (first | exact List.Mem.head _ | refine List.Mem.tail _ ?_))) _ (List.mem_map.2 ⟨_, pc_mem (by omega), rfl⟩)) fun hone => ?_
    refine .w (.assign rfl) ?_
    refine .nil (.tn (.seq ?_))
    refine JC.draw (.one 0 (.one 1 (.one 2 (.one 3 (.one 4 (.one 5 .nil)))))) (fun i => ([4, 5] : List Nat).contains i) (fun i => ([4, 5] : List Nat).contains i) (fun i => ([0, 1, 2, 3] : List Nat).contains i) mixed (by kernel_rfl) (by decide) (by kernel_rfl) ?_
    refine .uw rfl (.move rfl) ?_
    refine .uw rfl (.move rfl) ?_
    refine .uw rfl (.cutRd (l := 0) (h := x) Tryd.underlying23 sz_24 rfl (by repeat (first | exact List.Mem.head _ | refine List.Mem.tail _ ?_)) rfl ⟨_, rfl⟩ (by first | (simp; done) | omega | (simp; omega)) (by first | (simp; done) | omega | (simp; omega))) ?_
    refine .uw rfl (.move rfl) ?_
    refine .mw rfl (.cb (f31_spec (pcAt L x).1 hone) body_31 (h0 := by rintro _ _ _ ⟨_, _, h, _⟩; exact h)) ?_
    rintro _ _ _ ⟨_, ⟨q, rfl, _, rfl⟩, hΓ, hH⟩
    simp only [List.cons_append, List.nil_append] at hH; subst hΓ hH
    refine kp ?_
    refine .mw rfl (.c (f17Is_spec _ (L.take x) q (pcAt L x).1 (pcAt L x).2) body_17) ?_
    rintro _ _ _ ⟨rfl, rfl, rfl⟩
    refine kp ?_
    refine .nil (.tn ?_)
    refine .cn rfl (fun hc2 => ?_) (fun hc2 => ?_)
    · refine .seq (.region ?_)
      refine .w (.assign rfl) ?_
      refine .nil (.tn (.ret (.block_ret (.then_ret (.then_ret (.block_ret (.then_ret ?_)))))))
      exact .dn [] [] (res1 rfl (.tmp rfl)) ⟨congrArg Value.bool (tw_hit (by omega) hc2).symm, rfl, rfl⟩
    · refine .skip (.block_normal (.tn (.region ?_)))
      refine .w (.bin rfl rfl (BinR.add_i (by first | (constructor <;> omega) | (constructor <;> simp <;> omega)))) ?_
      refine .w (.move rfl) ?_
      refine .nil ?_
      have hn2 := tw_go (by omega) hn hc2
      refine .hd (x + 1) ?_
      exact ⟨⟨by omega, hn2⟩, by omega⟩
  · obtain rfl : x = L.length := by omega
    rw [show (bytesP L).take L.length = bytesP L from List.take_of_length_le (by rw [bytesP_len]; omega)] at hn
    refine .exit (.then_exit (.then_exit (.block_exit (.tn (.seq (.region ?_))))))
    refine .w (.assign rfl) ?_
    refine .nil (.tn (.ret ?_))
    exact .dn [] [] (res1 rfl (.tmp rfl)) ⟨congrArg Value.bool (by rw [twB, decide_eq_true hn]; rfl), rfl, rfl⟩

theorem f16N_spec (p : Nat) (wv : Value) (A : Pcs) (hA : A.length ≤ 1000) (lv : Value) (L : Pcs) :
    Spec Tryd.prog 16 #[(ptr p 0), lv] [Res.all (pcRes A), Res.rd lv L.length 1 (L.map Prod.fst), Res.all (pcRes L)] [Res.cells p [wv, .map none] 41, dnR (.map none) MM.nil, Res.row wv A.length 24 1 (A.map Prod.fst)]
      (fun r Γ' H' => ∃ wv' a', r = it ((A.length : Int) - ((delP A (bytesP L)).length : Int)) ∧ Γ' = [] ∧ H' = [Res.cells p [wv', .map (some a')] 41, mpR a' stK blV (putsM MM.nil (bytesP L)), Res.row wv' (delP A (bytesP L)).length 24 1 ((delP A (bytesP L)).map Prod.fst)]) := by
  refine Spec.of_args Tryd.func16 rfl Tryd.ntmps16 (by simp) fun w => ?_
  refine JC.know (φ := L.length ≤ 9223372036854775807) (fun w hs => by obtain ⟨_, _, _, _, _, _, h⟩ := hs.rdForm (.tail _ (.head _)); unfold maxLen at h; omega) fun hll => ?_
  refine .seq (.region ?_)
  refine .w (.assign rfl) ?_
  refine .nil (.tn (.seq (.seq (.region ?_))))
  refine .w (.move rfl) ?_
  refine .w (.nilCheck rfl) ?_
  refine .w (.fieldAddr fa_41_1 rfl) ?_
  refine .w (.ld one_39 rfl (hj := by first | exact pc_get (by omega) | rfl | exact tab_get (by first | omega | (simp; omega)) | exact gm (d := 0) (by first | omega | (simp; omega)))) ?_
  refine .w (.as (v' := .bool true) (.bin rfl rfl (BinR.eql_m Tryd.underlying39)) rfl) ?_
  refine .nil (.tn ?_)
  refine .ct rfl ?_
  refine .region ?_
  refine .w (.move rfl) ?_
  refine .mm stK blV fun b14 => ?_
  refine .w (.nilCheck rfl) ?_
  refine .w (.fieldAddr fa_41_1 rfl) ?_
  first | refine .s1 sz_39 ?_ | refine .sr1 sz_39 ?_
  refine .nil (.tn (.seq (.region ?_)))
  refine .w (.move rfl) ?_
  refine .w (.nilCheck rfl) ?_
  refine .w (.fieldAddr fa_41_0 rfl) ?_
  refine .w (.ld one_23 rfl (hj := by first | exact pc_get (by omega) | rfl | exact tab_get (by first | omega | (simp; omega)) | exact gm (d := 0) (by first | omega | (simp; omega)))) ?_
  refine .w (.len Tryd.underlying23 rfl) ?_
  refine .w (.assign rfl) ?_
  refine .nil (.tn (.seq (.seq (.region ?_))))
  refine .w (.move rfl) ?_
  refine .w (.len Tryd.underlying23 rfl) ?_
  refine .w (.move rfl) ?_
  refine .nil (.tn (.block ?_))
  refine .lp (ι := Nat × Value) (fun x => x.1 ≤ L.length) (fun T x => (24, it (x.1 : Int)) :: T) (fun T x => Res.all (pcRes (delP A ((bytesP L).take x.1))) :: T) (fun T x => Res.cells p [x.2, .map (some b14)] 41 :: mpR b14 stK blV (putsM MM.nil ((bytesP L).take x.1)) :: Res.row x.2 (delP A ((bytesP L).take x.1)).length 24 1 ((delP A ((bytesP L).take x.1)).map Prod.fst) :: T) (fun x => L.length - x.1) (0, wv) [0, 4, 5, 22, 23, 45, 46, 47, 48, 49, 50, 51] ?_ (fun x hx => ?_)
  · exact Nat.zero_le _
  obtain ⟨k, wv2⟩ := x
  have hk : k ≤ L.length := hx
  dsimp only
  have hdl := delP_le A ((bytesP L).take k)
  refine .seq (.region ?_)
  refine .w (.bin rfl rfl BinR.lss_i) ?_
  refine .nil (.tn (.seq ?_))
  refine .cn rfl (fun hc2 => ?_) (fun hc2 => ?_)
  · refine .skip (.tn (.seq (.block (.seq (.region ?_)))))
    refine JO.open (r := Res.rd (pcAt L k).1 (pcAt L k).2.length 1 ((pcAt L k).2.map u8)) (by repeat (first | exact List.Mem.head _ | refine List.Mem.tail _ ?_)) (pc_res (by omega)) ?_
    refine .w (.ix1 Tryd.underlying23 sz_24 rfl rfl) ?_
    refine .w (.ld one_24 rfl (hj := by first | exact pc_get (by omega) | rfl | exact tab_get (by first | omega | (simp; omega)) | exact gm (d := 0) (by first | omega | (simp; omega)))) ?_
    refine .w (.assign rfl) ?_
    refine JO.know (φ := (pcAt L k).1.oneCell' = true) (fun w hs => pcs_one (hs.gok (Res.all (pcRes L)) (by repeat (first | exact List.Mem.head _ | refine List.Mem.tail _ ?_))) _ (List.mem_map.2 ⟨_, pc_mem (by omega), rfl⟩)) fun hone => ?_
    refine .nil (.tn (.seq ?_))
    refine JC.draw (.one 0 (.one 1 (.one 2 (.one 3 (.one 4 (.one 5 (.one 6 .nil))))))) (fun i => ([6] : List Nat).contains i) (fun i => ([6] : List Nat).contains i) (fun i => ([0, 1, 2, 4, 5] : List Nat).contains i) mixed (by kernel_rfl) (by decide) (by kernel_rfl) ?_
    refine .uw rfl (.move rfl) ?_
    refine .uw rfl (.nilCheck rfl) ?_
    refine .uw rfl (.fieldAddr fa_41_1 rfl) ?_
    refine .w rfl (.ld one_39 rfl (hj := by first | exact pc_get (by omega) | rfl | exact tab_get (by first | omega | (simp; omega)) | exact gm (d := 0) (by first | omega | (simp; omega)))) ?_
    refine .uw rfl (.move rfl) ?_
    refine .uw rfl (.conv_str Tryd.underlying24 Tryd.underlying5 Tryd.underlying9 rfl rfl (by repeat (first | exact Lend.same _ _ | exact Lend.row _ _ _ _ _ _ (by decide) | apply Lend.there))) ?_
    refine .mw0 rfl (.mu ((pcAt L k).2) true Tryd.underlying39 mkey_39) ?_
    rintro _ _ _ ⟨rfl, rfl⟩
    refine kp ?_
    rw [← putsM_snoc, ← bytesP_get (by omega)]
    refine .nil (.tn ?_)
    refine JC.draw (.one 0 (.one 1 (.one 2 (.one 3 (.one 4 (.one 5 (.one 6 (.one 7 (.one 8 (.one 9 (.one 10 .nil))))))))))) (fun i => ([7, 10] : List Nat).contains i) (fun i => ([6, 7, 10] : List Nat).contains i) (fun i => ([0, 1, 2, 3, 5, 8, 9] : List Nat).contains i) mixed (by kernel_rfl) (by decide) (by kernel_rfl) ?_
    refine .uw rfl (.move rfl) ?_
    refine .uw rfl (.move rfl) ?_
    refine .uw rfl (.nilCheck rfl) ?_
    refine .uw rfl (.fieldAddr fa_41_0 rfl) ?_
    refine .w rfl (.ld one_23 rfl (hj := by first | exact pc_get (by omega) | rfl | exact tab_get (by first | omega | (simp; omega)) | exact gm (d := 0) (by first | omega | (simp; omega)))) ?_
    refine .uw rfl (.move rfl) ?_
    refine .mw rfl (.cb (f31_spec (pcAt L k).1 hone) body_31 (h0 := by rintro _ _ _ ⟨_, _, h, _⟩; exact h)) ?_
    rintro _ _ _ ⟨_, ⟨q, rfl, _, rfl⟩, hΓ, hH⟩
    simp only [List.cons_append, List.nil_append] at hH; subst hΓ hH
    refine kp ?_
    refine .mw rfl (.cb (f40_spec wv2 (delP A ((bytesP L).take k)) (by omega) q (pcAt L k).1 (pcAt L k).2) body_40) ?_
    rintro v41 _ _ ⟨_, ⟨_, _, rfl⟩, hΓ, hH⟩
    simp only [List.cons_append, List.nil_append] at hH; subst hΓ hH
    rw [← delP_snoc, ← bytesP_get (by omega)]
    refine kp ?_
    refine .uw rfl (.nilCheck rfl) ?_
    refine .uw rfl (.fieldAddr fa_41_0 rfl) ?_
    first | refine .mw0 rfl (.s1 sz_23) ?_ | refine .mw0 rfl (.s1s sz_23) ?_ | refine .mw0 rfl (.sr1 sz_23) ?_
    rintro _ _ _ ⟨rfl, rfl⟩
    refine kp ?_
    refine .nil (.block_normal (.tn (.region ?_)))
    refine .w (.bin rfl rfl (BinR.add_i (by first | (constructor <;> omega) | (constructor <;> simp <;> omega)))) ?_
    refine .w (.move rfl) ?_
    refine .nil ?_
    refine JQ.allOf (delP A ((bytesP L).take k)) (delP A ((bytesP L).take k)) (delP A ((bytesP L).take (k + 1))) (by repeat (first | exact List.Mem.head _ | refine List.Mem.tail _ ?_)) (by repeat (first | exact List.Mem.head _ | refine List.Mem.tail _ ?_)) (fun z hz => .inl (by rw [bytesP_get (by omega), delP_snoc] at hz; exact not_sub z hz)) ?_
    refine .hd (k + 1, v41) ?_
    exact ⟨by dsimp only; omega, by dsimp only; omega⟩
  · have he : k = L.length := by omega
    subst he
    rw [show ((bytesP L).take L.length) = bytesP L from List.take_of_length_le (by rw [bytesP_len]; omega)] at *
    refine .exit (.then_exit (.then_exit (.block_exit (.tn (.seq (.region ?_))))))
    refine .w (.move rfl) ?_
    refine .w (.move rfl) ?_
    refine .w (.nilCheck rfl) ?_
    refine .w (.fieldAddr fa_41_0 rfl) ?_
    refine .w (.ld one_23 rfl (hj := by first | exact pc_get (by omega) | rfl | exact tab_get (by first | omega | (simp; omega)) | exact gm (d := 0) (by first | omega | (simp; omega)))) ?_
    refine .w (.len Tryd.underlying23 rfl) ?_
    refine .w (.bin rfl rfl (BinR.sub_i (by first | (constructor <;> omega) | (constructor <;> simp <;> omega)))) ?_
    refine .w (.assign rfl) ?_
    refine .nil (.tn (.ret ?_))
    exact .dn [] [Res.cells p [wv2, .map (some b14)] 41, mpR b14 stK blV (putsM MM.nil (bytesP L)), Res.row wv2 (delP A (bytesP L)).length 24 1 ((delP A (bytesP L)).map Prod.fst)] (res1 rfl (.tmp rfl)) ⟨_, _, rfl, rfl, rfl⟩

theorem f16M_spec (p : Nat) (wv : Value) (a : Nat) (m : MM B8 Bool) (A : Pcs) (hA : A.length ≤ 1000) (lv : Value) (L : Pcs) :
    Spec Tryd.prog 16 #[(ptr p 0), lv] [Res.all (pcRes A), Res.rd lv L.length 1 (L.map Prod.fst), Res.all (pcRes L)] [Res.cells p [wv, .map (some a)] 41, mpR a stK blV m, Res.row wv A.length 24 1 (A.map Prod.fst)]
      (fun r Γ' H' => ∃ wv' a', r = it ((A.length : Int) - ((delP A (bytesP L)).length : Int)) ∧ Γ' = [] ∧ H' = [Res.cells p [wv', .map (some a')] 41, mpR a' stK blV (putsM m (bytesP L)), Res.row wv' (delP A (bytesP L)).length 24 1 ((delP A (bytesP L)).map Prod.fst)]) := by
  refine Spec.of_args Tryd.func16 rfl Tryd.ntmps16 (by simp) fun w => ?_
  refine JC.know (φ := L.length ≤ 9223372036854775807) (fun w hs => by obtain ⟨_, _, _, _, _, _, h⟩ := hs.rdForm (.tail _ (.head _)); unfold maxLen at h; omega) fun hll => ?_
  refine .seq (.region ?_)
  refine .w (.assign rfl) ?_
  refine .nil (.tn (.seq (.seq (.region ?_))))
  refine .w (.move rfl) ?_
  refine .w (.nilCheck rfl) ?_
  refine .w (.fieldAddr fa_41_1 rfl) ?_
  refine .w (.ld one_39 rfl (hj := by first | exact pc_get (by omega) | rfl | exact tab_get (by first | omega | (simp; omega)) | exact gm (d := 0) (by first | omega | (simp; omega)))) ?_
  refine .w (.as (v' := .bool false) (.bin rfl rfl (BinR.eql_m Tryd.underlying39)) rfl) ?_
  refine .nil (.tn ?_)
  refine .cf rfl ?_
  refine .skip (.tn (.seq (.region ?_)))
  refine .w (.move rfl) ?_
  refine .w (.nilCheck rfl) ?_
  refine .w (.fieldAddr fa_41_0 rfl) ?_
  refine .w (.ld one_23 rfl (hj := by first | exact pc_get (by omega) | rfl | exact tab_get (by first | omega | (simp; omega)) | exact gm (d := 0) (by first | omega | (simp; omega)))) ?_
  refine .w (.len Tryd.underlying23 rfl) ?_
  refine .w (.assign rfl) ?_
  refine .nil (.tn (.seq (.seq (.region ?_))))
  refine .w (.move rfl) ?_
  refine .w (.len Tryd.underlying23 rfl) ?_
  refine .w (.move rfl) ?_
  refine .nil (.tn (.block ?_))
  refine .lp (ι := Nat × Value) (fun x => x.1 ≤ L.length) (fun T x => (24, it (x.1 : Int)) :: T) (fun T x => Res.all (pcRes (delP A ((bytesP L).take x.1))) :: T) (fun T x => Res.cells p [x.2, .map (some a)] 41 :: mpR a stK blV (putsM m ((bytesP L).take x.1)) :: Res.row x.2 (delP A ((bytesP L).take x.1)).length 24 1 ((delP A ((bytesP L).take x.1)).map Prod.fst) :: T) (fun x => L.length - x.1) (0, wv) [0, 4, 5, 22, 23, 45, 46, 47, 48, 49, 50, 51] ?_ (fun x hx => ?_)
  · exact Nat.zero_le _
  obtain ⟨k, wv2⟩ := x
  have hk : k ≤ L.length := hx
  dsimp only
  have hdl := delP_le A ((bytesP L).take k)
  refine .seq (.region ?_)
  refine .w (.bin rfl rfl BinR.lss_i) ?_
  refine .nil (.tn (.seq ?_))
  refine .cn rfl (fun hc2 => ?_) (fun hc2 => ?_)
  · refine .skip (.tn (.seq (.block (.seq (.region ?_)))))
    refine JO.open (r := Res.rd (pcAt L k).1 (pcAt L k).2.length 1 ((pcAt L k).2.map u8)) (by repeat (first | exact List.Mem.head _ | refine List.Mem.tail _ ?_)) (pc_res (by omega)) ?_
    refine .w (.ix1 Tryd.underlying23 sz_24 rfl rfl) ?_
    refine .w (.ld one_24 rfl (hj := by first | exact pc_get (by omega) | rfl | exact tab_get (by first | omega | (simp; omega)) | exact gm (d := 0) (by first | omega | (simp; omega)))) ?_
    refine .w (.assign rfl) ?_
    refine JO.know (φ := (pcAt L k).1.oneCell' = true) (fun w hs => pcs_one (hs.gok (Res.all (pcRes L)) (by repeat (first | exact List.Mem.head _ | refine List.Mem.tail _ ?_))) _ (List.mem_map.2 ⟨_, pc_mem (by omega), rfl⟩)) fun hone => ?_
    refine .nil (.tn (.seq ?_))
    refine JC.draw (.one 0 (.one 1 (.one 2 (.one 3 (.one 4 (.one 5 (.one 6 .nil))))))) (fun i => ([6] : List Nat).contains i) (fun i => ([6] : List Nat).contains i) (fun i => ([0, 1, 2, 4, 5] : List Nat).contains i) mixed (by kernel_rfl) (by decide) (by kernel_rfl) ?_
    refine .uw rfl (.move rfl) ?_
    refine .uw rfl (.nilCheck rfl) ?_
    refine .uw rfl (.fieldAddr fa_41_1 rfl) ?_
    refine .w rfl (.ld one_39 rfl (hj := by first | exact pc_get (by omega) | rfl | exact tab_get (by first | omega | (simp; omega)) | exact gm (d := 0) (by first | omega | (simp; omega)))) ?_
    refine .uw rfl (.move rfl) ?_
    refine .uw rfl (.conv_str Tryd.underlying24 Tryd.underlying5 Tryd.underlying9 rfl rfl (by repeat (first | exact Lend.same _ _ | exact Lend.row _ _ _ _ _ _ (by decide) | apply Lend.there))) ?_
    refine .mw0 rfl (.mu ((pcAt L k).2) true Tryd.underlying39 mkey_39) ?_
    rintro _ _ _ ⟨rfl, rfl⟩
    refine kp ?_
    rw [← putsM_snoc, ← bytesP_get (by omega)]
    refine .nil (.tn ?_)
    refine JC.draw (.one 0 (.one 1 (.one 2 (.one 3 (.one 4 (.one 5 (.one 6 (.one 7 (.one 8 (.one 9 (.one 10 .nil))))))))))) (fun i => ([7, 10] : List Nat).contains i) (fun i => ([6, 7, 10] : List Nat).contains i) (fun i => ([0, 1, 2, 3, 5, 8, 9] : List Nat).contains i) mixed (by kernel_rfl) (by decide) (by kernel_rfl) ?_
    refine .uw rfl (.move rfl) ?_
    refine .uw rfl (.move rfl) ?_
    refine .uw rfl (.nilCheck rfl) ?_
    refine .uw rfl (.fieldAddr fa_41_0 rfl) ?_
    refine .w rfl (.ld one_23 rfl (hj := by first | exact pc_get (by omega) | rfl | exact tab_get (by first | omega | (simp; omega)) | exact gm (d := 0) (by first | omega | (simp; omega)))) ?_
    refine .uw rfl (.move rfl) ?_
    refine .mw rfl (.cb (f31_spec (pcAt L k).1 hone) body_31 (h0 := by rintro _ _ _ ⟨_, _, h, _⟩; exact h)) ?_
    rintro _ _ _ ⟨_, ⟨q, rfl, _, rfl⟩, hΓ, hH⟩
    simp only [List.cons_append, List.nil_append] at hH; subst hΓ hH
    refine kp ?_
    refine .mw rfl (.cb (f40_spec wv2 (delP A ((bytesP L).take k)) (by omega) q (pcAt L k).1 (pcAt L k).2) body_40) ?_
    rintro v41 _ _ ⟨_, ⟨_, _, rfl⟩, hΓ, hH⟩
    simp only [List.cons_append, List.nil_append] at hH; subst hΓ hH
    rw [← delP_snoc, ← bytesP_get (by omega)]
    refine kp ?_
    refine .uw rfl (.nilCheck rfl) ?_
    refine .uw rfl (.fieldAddr fa_41_0 rfl) ?_
    first | refine .mw0 rfl (.s1 sz_23) ?_ | refine .mw0 rfl (.s1s sz_23) ?_ | refine .mw0 rfl (.sr1 sz_23) ?_
    rintro _ _ _ ⟨rfl, rfl⟩
    refine kp ?_
    refine .nil (.block_normal (.tn (.region ?_)))
    refine .w (.bin rfl rfl (BinR.add_i (by first | (constructor <;> omega) | (constructor <;> simp <;> omega)))) ?_
    refine .w (.move rfl) ?_
    refine .nil ?_
    refine JQ.allOf (delP A ((bytesP L).take k)) (delP A ((bytesP L).take k)) (delP A ((bytesP L).take (k + 1))) (by repeat (first | exact List.Mem.head _ | refine List.Mem.tail _ ?_)) (by repeat (first | exact List.Mem.head _ | refine List.Mem.tail _ ?_)) (fun z hz => .inl (by rw [bytesP_get (by omega), delP_snoc] at hz; exact not_sub z hz)) ?_
    refine .hd (k + 1, v41) ?_
    exact ⟨by dsimp only; omega, by dsimp only; omega⟩
  · have he : k = L.length := by omega
    subst he
    rw [show ((bytesP L).take L.length) = bytesP L from List.take_of_length_le (by rw [bytesP_len]; omega)] at *
    refine .exit (.then_exit (.then_exit (.block_exit (.tn (.seq (.region ?_))))))
    refine .w (.move rfl) ?_
    refine .w (.move rfl) ?_
    refine .w (.nilCheck rfl) ?_
    refine .w (.fieldAddr fa_41_0 rfl) ?_
    refine .w (.ld one_23 rfl (hj := by first | exact pc_get (by omega) | rfl | exact tab_get (by first | omega | (simp; omega)) | exact gm (d := 0) (by first | omega | (simp; omega)))) ?_
    refine .w (.len Tryd.underlying23 rfl) ?_
    refine .w (.bin rfl rfl (BinR.sub_i (by first | (constructor <;> omega) | (constructor <;> simp <;> omega)))) ?_
    refine .w (.assign rfl) ?_
    refine .nil (.tn (.ret ?_))
    exact .dn [] [Res.cells p [wv2, .map (some a)] 41, mpR a stK blV (putsM m (bytesP L)), Res.row wv2 (delP A (bytesP L)).length 24 1 ((delP A (bytesP L)).map Prod.fst)] (res1 rfl (.tmp rfl)) ⟨_, _, rfl, rfl, rfl⟩

theorem f16A_spec (p : Nat) (wv mv : Value) (m : MM B8 Bool) (hm : DnOk mv m) (A : Pcs) (hA : A.length ≤ 1000) (lv : Value) (L : Pcs) : Spec Tryd.prog 16 #[(ptr p 0), lv] [Res.all (pcRes A), Res.rd lv L.length 1 (L.map Prod.fst), Res.all (pcRes L)] [Res.cells p [wv, mv] 41, dnR mv m, Res.row wv A.length 24 1 (A.map Prod.fst)] (fun r Γ' H' => ∃ wv' mv', DnOk mv' (putsM m (bytesP L)) ∧ r = it ((A.length : Int) - ((delP A (bytesP L)).length : Int)) ∧ Γ' = [] ∧ H' = [Res.cells p [wv', mv'] 41, dnR mv' (putsM m (bytesP L)), Res.row wv' (delP A (bytesP L)).length 24 1 ((delP A (bytesP L)).map Prod.fst)]) := by
  rcases hm with ⟨rfl, rfl⟩ | ⟨a, rfl⟩
  · refine Spec.mono (f16N_spec p wv A hA lv L) ?_
    rintro r Γ' H' ⟨wv', a', h1, h2, h3⟩
    exact ⟨wv', .map (some a'), .inr ⟨a', rfl⟩, h1, h2, h3⟩
  · refine Spec.mono (f16M_spec p wv a m A hA lv L) ?_
    rintro r Γ' H' ⟨wv', a', h1, h2, h3⟩
    exact ⟨wv', .map (some a'), .inr ⟨a', rfl⟩, h1, h2, h3⟩
end Go.Proofs.YtffgimlkmfjgmaaDoor
