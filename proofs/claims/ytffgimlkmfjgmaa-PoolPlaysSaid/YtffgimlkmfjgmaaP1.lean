/- Walks: lists, one of a kind. -/
import Derived.Test.YtffgimlkmfjgmaaF7
import Derived.Test.YtffgimlkmfjgmaaF3
import Derived.Test.YtffgimlkmfjgmaaP17
import Derived.Test.YtffgimlkmfjgmaaB
namespace Go.Proofs.Ytffgimlkmfjgmaa
open Go.RowKit
set_option maxRecDepth 100000
set_option linter.unusedVariables false
set_option linter.unusedSimpArgs false
theorem f10_spec (u v : Value) (a b : Pcs) :
    Spec Try.prog 10 #[u, v] [Res.rd u a.length 1 (a.map Prod.fst), Res.rd v b.length 1 (b.map Prod.fst), Res.all (pcRes a), Res.all (pcRes b)] []
      (fun r Γ' H' => r = .bool (decide (bytesP a = bytesP b)) ∧ Γ' = [] ∧ H' = []) := by
  refine Spec.of_args Try.func10 rfl Try.ntmps10 (by simp) fun w => ?_
  refine JC.know (φ := a.length ≤ 9223372036854775807) (fun w hs => by obtain ⟨_, _, _, _, _, _, h⟩ := hs.rdForm (.head _); unfold maxLen at h; omega) fun hla => ?_
  refine JC.know (φ := b.length ≤ 9223372036854775807) (fun w hs => by obtain ⟨_, _, _, _, _, _, h⟩ := hs.rdForm (.tail _ (.head _)); unfold maxLen at h; omega) fun hlb => ?_
  refine .seq (.region ?_)
  refine .w (.assign rfl) ?_
  refine .nil (.tn (.seq (.seq (.region ?_))))
  refine .w (.move rfl) ?_
  refine .w (.len Try.underlying23 rfl) ?_
  refine .w (.move rfl) ?_
  refine .w (.len Try.underlying23 rfl) ?_
  refine .w (.bin rfl rfl BinR.neq_i) ?_
  refine .nil (.tn ?_)
  refine .cn rfl (fun hc1 => ?_) (fun hc1 => ?_)
  · refine .seq (.region ?_)
    refine .w (.assign rfl) ?_
    refine .nil (.tn (.ret (.then_ret ?_)))
    exact .dn [] [] (res1 rfl (.tmp rfl)) ⟨congrArg Value.bool (decide_eq_false (fun h => hc1 (by have := congrArg List.length h; rw [bytesP_len, bytesP_len] at this; rw [this]))).symm, rfl, rfl⟩
  · have hab : a.length = b.length := by omega
    refine .skip (.tn (.seq (.seq (.region ?_))))
    refine .w (.assign rfl) ?_
    refine .nil (.tn (.block ?_))
    refine .lp (ι := Nat) (fun x => x ≤ a.length ∧ bytesP (a.take x) = bytesP (b.take x)) (fun T x => (5, it (x : Int)) :: T) (fun T _ => T) (fun T _ => T) (fun x => a.length - x) 0 [0, 1] ?_ (fun x hx => ?_)
    · exact ⟨Nat.zero_le _, rfl⟩
    obtain ⟨hx1, hx2⟩ := hx
    refine .seq (.seq (.region ?_))
    refine .w (.move rfl) ?_
    refine .w (.move rfl) ?_
    refine .w (.len Try.underlying23 rfl) ?_
    refine .w (.bin rfl rfl BinR.lss_i) ?_
    refine .nil (.tn ?_)
    refine .cn rfl (fun hc2 => ?_) (fun hc2 => ?_)
    · refine .skip (.tn (.seq (.block (.seq ?_))))
      refine JC.draw (.one 0 (.one 1 (.one 2 (.one 3 (.one 4 (.one 5 (.one 6 (.one 7 (.one 8 (.one 9 .nil)))))))))) (fun i => ([8] : List Nat).contains i) (fun i => ([8] : List Nat).contains i) (fun i => ([0, 1, 2, 4, 5, 6, 9] : List Nat).contains i) mixed (by kernel_rfl) (by decide) (by kernel_rfl) ?_
      refine JR.open (r := Res.rd (pcAt a x).1 (pcAt a x).2.length 1 ((pcAt a x).2.map u8)) (by repeat (first | exact List.Mem.head _ | refine List.Mem.tail _ ?_)) (pc_res (by omega)) ?_
      refine JR.open (r := Res.rd (pcAt b x).1 (pcAt b x).2.length 1 ((pcAt b x).2.map u8)) (by repeat (first | exact List.Mem.head _ | refine List.Mem.tail _ ?_)) (pc_res (by omega)) ?_
      refine .uw rfl (.move rfl) ?_
      refine .uw rfl (.move rfl) ?_
      refine .uw rfl (.ix1 Try.underlying23 sz_24 rfl rfl) ?_
      refine .w rfl (.ld one_24 rfl (hj := by first | exact pc_get (by omega) | rfl | exact tab_get (by first | omega | (simp; omega)) | exact gm (d := 0) (by first | omega | (simp; omega)))) ?_
      refine .uw rfl (.move rfl) ?_
      refine .uw rfl (.move rfl) ?_
      refine .uw rfl (.ix1 Try.underlying23 sz_24 rfl rfl) ?_
      refine .w rfl (.ld one_24 rfl (hj := by first | exact pc_get (by omega) | rfl | exact tab_get (by first | omega | (simp; omega)) | exact gm (d := 0) (by first | omega | (simp; omega)))) ?_
      refine .mw rfl (.c (f11_spec _ _ (pcAt a x).2 (pcAt b x).2) body_11) ?_
      rintro _ _ _ ⟨rfl, rfl, rfl⟩
      refine kp ?_
      refine .uw rfl (.not rfl) ?_
      refine .nil (.tn ?_)
      refine .cn rfl (fun hc3 => ?_) (fun hc3 => ?_)
      · refine .seq (.region ?_)
        refine .w (.assign rfl) ?_
        refine .nil (.tn (.ret (.block_ret (.then_ret (.then_ret (.block_ret (.then_ret ?_)))))))
        exact .dn [] [] (res1 rfl (.tmp rfl)) ⟨congrArg Value.bool (decide_eq_false (fun h => hc3 (pcAt_of h))).symm, rfl, rfl⟩
      · refine .skip (.block_normal (.tn (.region ?_)))
        refine .w (.move rfl) ?_
        refine .w (.bin rfl rfl (BinR.add_i (by first | (constructor <;> omega) | (constructor <;> simp <;> omega)))) ?_
        refine .w (.assign rfl) ?_
        refine .nil ?_
        have hx3 : bytesP (a.take (x + 1)) = bytesP (b.take (x + 1)) := by rw [take_snocP (by omega), take_snocP (by omega), hx2, hc3]
        refine .hd (x + 1) ?_
        exact ⟨⟨by omega, hx3⟩, by omega⟩
    · have he : x = a.length := by omega
      subst he
      rw [List.take_length, hab, List.take_length] at hx2
      refine .exit (.then_exit (.then_exit (.block_exit (.tn (.seq (.region ?_))))))
      refine .w (.assign rfl) ?_
      refine .nil (.tn (.ret ?_))
      exact .dn [] [] (res1 rfl (.tmp rfl)) ⟨congrArg Value.bool (decide_eq_true hx2).symm, rfl, rfl⟩

theorem f46_spec (u v : Value) (a b : B8) :
    Spec Try.prog 46 #[u, v] [Res.rd u a.length 1 (a.map u8), Res.rd v b.length 1 (b.map u8)] []
      (fun r Γ' H' => r = .bool (decide (a = b)) ∧ Γ' = [] ∧ H' = []) := by
  refine Spec.of_args Try.func46 rfl Try.ntmps46 (by simp) fun w => ?_
  refine .seq (.region ?_)
  refine .w (.assign rfl) ?_
  refine .nil (.tn (.seq (.region ?_)))
  refine .w (.move rfl) ?_
  refine .w (.conv_str Try.underlying24 Try.underlying5 Try.underlying9 rfl rfl (by repeat (first | exact Lend.same _ _ | exact Lend.row _ _ _ _ _ _ (by decide) | apply Lend.there))) ?_
  refine .w (.move rfl) ?_
  refine .w (.conv_str Try.underlying24 Try.underlying5 Try.underlying9 rfl rfl (by repeat (first | exact Lend.same _ _ | exact Lend.row _ _ _ _ _ _ (by decide) | apply Lend.there))) ?_
  refine .w (.bin rfl rfl (BinR.eql_str _ _)) ?_
  refine .w (.assign rfl) ?_
  refine .nil (.tn (.ret ?_))
  exact .dn [] [] (res1 rfl (.tmp rfl)) ⟨rfl, rfl, rfl⟩

theorem f45_spec (q : Nat) (tv : Value) (b : B8) (u : Value) (c : B8) :
    Spec Try.prog 45 #[u, (ptr q 0)] [Res.cells q [tv] 24, Res.rd tv b.length 1 (b.map u8), Res.rd u c.length 1 (c.map u8)] []
      (fun r Γ' H' => r = .bool (decide (b = c)) ∧ Γ' = [] ∧ H' = []) := by
  refine Spec.of_args Try.func45 rfl Try.ntmps45 (by simp) fun w => ?_
  refine .seq (.region ?_)
  refine .w (.assign rfl) ?_
  refine .nil (.tn (.seq (.region ?_)))
  refine .w (.ld one_24 rfl) ?_
  refine .w (.move rfl) ?_
  refine .c (f46_spec tv u b c) body_46 ?_
  refine .w (.assign rfl) ?_
  refine .nil (.tn (.ret ?_))
  exact .dn [] [] (res1 rfl (.tmp rfl)) ⟨rfl, rfl, rfl⟩

theorem f25_spec (u : Value) (c : B8) :
    Spec Try.prog 25 #[u] [Res.rd u c.length 1 (c.map u8)] []
      (fun r Γ' H' => r = .bool (fitB c) ∧ Γ' = [] ∧ H' = []) := by
  refine Spec.of_args Try.func25 rfl Try.ntmps25 (by simp) fun w => ?_
  refine JC.know (φ := c.length ≤ 9223372036854775807) (fun w hs => by obtain ⟨_, _, _, _, _, _, h⟩ := hs.rdForm (.head _); unfold maxLen at h; omega) fun hln => ?_
  refine .seq (.region ?_)
  refine .w (.assign rfl) ?_
  refine .nil (.tn (.seq (.region ?_)))
  refine .w (.move rfl) ?_
  refine .w (.len Try.underlying24 rfl) ?_
  refine .w (.bin rfl rfl BinR.geq_i) ?_
  refine .join 5 10 (.bool (decide (1 ≤ c.length ∧ c.length ≤ 1000))) ?_ ?_
  · refine .w (.move rfl) ?_
    refine .gn (g := 5) rfl (fun hg6 hg6' => ?_) (fun hg6 hg6' => ?_)
    · refine .gt (g := 6) rfl rfl hg6 ?_
      refine .w (.move rfl) ?_
      refine .gt (g := 6) rfl rfl hg6 ?_
      refine .w (.len Try.underlying24 rfl) ?_
      refine .gt (g := 6) rfl rfl hg6 ?_
      refine .w (.bin rfl rfl BinR.leq_i) ?_
      refine .w (.pick1 rfl hg6 rfl) ?_
      refine .nil ?_
      refine .head () (by first | (refine ⟨by first | rfl | exact congrArg (fun b => some (Value.bool b)) (by first | exact (decide_eq_true (by omega)).symm | exact (decide_eq_false (by omega)).symm | exact decide_eq_decide.2 (by omega)) | (simp [*]; done) | (show some _ = some _; simp [*]; done), ?_⟩; repeat (first | exact trivial | refine ⟨rfl, ?_⟩))) (fun _ h => h) (Picks.perm (by repeat (first | exact Picks.nil _ | apply Picks.cons | exact Pull.here _ _ | apply Pull.there))) ?_
      trivial
    · refine .gf (g := 6) rfl rfl hg6 (by decide) ?_
      refine .gf (g := 6) rfl rfl hg6 (by decide) ?_
      refine .gf (g := 6) rfl rfl hg6 (by decide) ?_
      refine .w (.pick0 rfl hg6 rfl) ?_
      refine .nil ?_
      refine .head () (by first | (refine ⟨by first | rfl | exact congrArg (fun b => some (Value.bool b)) (by first | exact (decide_eq_true (by omega)).symm | exact (decide_eq_false (by omega)).symm | exact decide_eq_decide.2 (by omega)) | (simp [*]; done) | (show some _ = some _; simp [*]; done), ?_⟩; repeat (first | exact trivial | refine ⟨rfl, ?_⟩))) (fun _ h => h) (Picks.perm (by repeat (first | exact Picks.nil _ | apply Picks.cons | exact Pull.here _ _ | apply Pull.there))) ?_
      trivial
  · refine .w (.assign rfl) ?_
    refine .nil (.tn (.ret ?_))
    exact .dn [] [] (res1 rfl (.tmp rfl)) ⟨rfl, rfl, rfl⟩

theorem f24_spec (u : Value) (c : B8) :
    Spec Try.prog 24 #[u] [Res.rd u c.length 1 (c.map u8)] []
      (fun r Γ' H' => r = .bool (!fitB c) ∧ Γ' = [] ∧ H' = []) := by
  refine Spec.of_args Try.func24 rfl Try.ntmps24 (by simp) fun w => ?_
  refine .seq (.region ?_)
  refine .w (.assign rfl) ?_
  refine .nil (.tn (.seq (.region ?_)))
  refine .w (.move rfl) ?_
  refine .c (f25_spec u c) body_25 ?_
  refine .w (.not rfl) ?_
  refine .w (.assign rfl) ?_
  refine .nil (.tn (.ret ?_))
  exact .dn [] [] (res1 rfl (.tmp rfl)) ⟨rfl, rfl, rfl⟩

theorem f34_spec (u : Value) (hu : u.oneCell' = true) :
    Spec Try.prog 34 #[u] [] []
      (fun r Γ' H' => ∃ q, r = .func (.func 45) #[] #[ptr q 0] ∧ Γ' = [] ∧ H' = [Res.cells q [u] 24]) := by
  refine Spec.of_args Try.func34 rfl Try.ntmps34 (by simp) fun w => ?_
  refine .seq (.region ?_)
  refine .bx fun b1 => ?_
  rw [show u.cells.toList = [u] from congrArg Array.toList (one_cells hu)]
  refine .w (.assign rfl) ?_
  refine .nil (.tn (.seq (.region ?_)))
  refine .w (.makeFunc rfl rfl) ?_
  refine .w (.assign rfl) ?_
  refine .nil (.tn (.ret ?_))
  exact .dn [] [Res.cells b1 [u] 24] (res1 rfl (.tmp rfl)) ⟨_, rfl, rfl, rfl⟩

theorem f38Is_spec (u : Value) (A : Pcs) (q : Nat) (tv : Value) (b : B8) :
    Spec Try.prog 38 #[u, (.func (.func 45) #[] #[ptr q 0])] [Res.rd u A.length 1 (A.map Prod.fst), Res.all (pcRes A), Res.cells q [tv] 24, Res.rd tv b.length 1 (b.map u8)] []
      (fun r Γ' H' => r = (it (ixP (isB b) A)) ∧ Γ' = [] ∧ H' = []) := by
  refine Spec.of_args Try.func38 rfl Try.ntmps38 (by simp) fun w => ?_
  refine JC.know (φ := A.length ≤ 9223372036854775807) (fun w hs => by obtain ⟨_, _, _, _, _, _, h⟩ := hs.rdForm (.head _); unfold maxLen at h; omega) fun hla => ?_
  refine .seq (.region ?_)
  refine .w (.assign rfl) ?_
  refine .nil (.tn (.seq (.seq (.region ?_))))
  refine .w (.move rfl) ?_
  refine .w (.len Try.underlying23 rfl) ?_
  refine .w (.move rfl) ?_
  refine .nil (.tn (.block ?_))
  refine .lp (ι := Nat) (fun x => x ≤ A.length ∧ ∀ j, j < x → (isB b) (pcAt A j).2 = false) (fun T x => (8, it (x : Int)) :: T) (fun T _ => T) (fun T _ => T) (fun x => A.length - x) 0 [0, 1, 7] ?_ (fun x hx => ?_)
  · exact ⟨Nat.zero_le _, fun j hj => absurd hj (Nat.not_lt_zero _)⟩
  obtain ⟨hx, hn⟩ := hx
  refine .seq (.region ?_)
  refine .w (.bin rfl rfl BinR.lss_i) ?_
  refine .nil (.tn (.seq ?_))
  refine .cn rfl (fun hc1 => ?_) (fun hc1 => ?_)
  · refine .skip (.tn (.seq (.block (.seq (.region ?_)))))
    refine .w (.move rfl) ?_
    refine .w (.assign rfl) ?_
    refine .nil (.tn (.seq (.region ?_)))
    refine .w (.move rfl) ?_
    refine .w (.move rfl) ?_
    refine .w (.move rfl) ?_
    refine .w (.ix1 Try.underlying23 sz_24 rfl rfl) ?_
    refine JO.open (r := Res.rd (pcAt A x).1 (pcAt A x).2.length 1 ((pcAt A x).2.map u8)) (by repeat (first | exact List.Mem.head _ | refine List.Mem.tail _ ?_)) (pc_res (by omega)) ?_
    refine .w (.ld one_24 rfl (hj := by first | exact pc_get (by omega) | rfl | exact tab_get (by first | omega | (simp; omega)) | exact gm (d := 0) (by first | omega | (simp; omega)))) ?_
    refine JO.callF (f45_spec q tv b (pcAt A x).1 (pcAt A x).2) body_45 rfl rfl rfl (by repeat (first | exact Picks.nil _ | apply Picks.cons | exact Pull.here _ _ | apply Pull.there)) (by repeat (first | exact Lends.nil _ | apply Lends.cons | exact Lend.same _ _ | exact Lend.row _ _ _ _ _ _ (by decide) | apply Lend.there)) (by rintro _ _ _ ⟨_, h, _⟩; exact h) (by decide) ?_
    rintro _ _ ⟨_, ⟨rfl, _, rfl⟩, hH⟩
    simp only [List.cons_append, List.nil_append] at hH; subst hH
    refine .nil (.tn ?_)
    refine .cn rfl (fun hc2 => ?_) (fun hc2 => ?_)
    · refine .seq (.region ?_)
      refine .w (.move rfl) ?_
      refine .w (.as (v' := it (ixP (isB b) A)) (.assign rfl) (congrArg it (ix_hit (by omega) (by first | exact hc2 | exact decide_eq_true hc2 | simpa using hc2) hn).symm)) ?_
      refine .nil (.tn (.ret (.block_ret (.then_ret (.then_ret (.block_ret (.then_ret ?_)))))))
      exact .dn [] [] (res1 rfl (.tmp rfl)) ⟨rfl, rfl, rfl⟩
    · refine .skip (.block_normal (.tn (.region ?_)))
      refine .w (.bin rfl rfl (BinR.add_i (by first | (constructor <;> omega) | (constructor <;> simp <;> omega)))) ?_
      refine .w (.move rfl) ?_
      refine .nil ?_
      have hn2 : ∀ j, j < x + 1 → (isB b) (pcAt A j).2 = false := fun j hj => (by
        rcases Nat.lt_succ_iff_lt_or_eq.1 hj with h1 | rfl
        · exact hn j h1
        · first | exact hc2 | exact decide_eq_false hc2 | simpa using hc2)
      refine .hd (x + 1) ?_
      exact ⟨⟨by omega, hn2⟩, by omega⟩
  · obtain rfl : x = A.length := by omega
    refine .exit (.then_exit (.then_exit (.block_exit (.tn (.seq (.region ?_))))))
    refine .w (.as (v' := it (ixP (isB b) A)) (.assign rfl) (congrArg it (ix_none hn).symm)) ?_
    refine .nil (.tn (.ret ?_))
    exact .dn [] [] (res1 rfl (.tmp rfl)) ⟨rfl, rfl, rfl⟩

theorem f38Fit_spec (u : Value) (A : Pcs)  :
    Spec Try.prog 38 #[u, (.func (.func 24) #[] #[])] [Res.rd u A.length 1 (A.map Prod.fst), Res.all (pcRes A)] []
      (fun r Γ' H' => r = (it (ixP (fun c => !fitB c) A)) ∧ Γ' = [] ∧ H' = []) := by
  refine Spec.of_args Try.func38 rfl Try.ntmps38 (by simp) fun w => ?_
  refine JC.know (φ := A.length ≤ 9223372036854775807) (fun w hs => by obtain ⟨_, _, _, _, _, _, h⟩ := hs.rdForm (.head _); unfold maxLen at h; omega) fun hla => ?_
  refine .seq (.region ?_)
  refine .w (.assign rfl) ?_
  refine .nil (.tn (.seq (.seq (.region ?_))))
  refine .w (.move rfl) ?_
  refine .w (.len Try.underlying23 rfl) ?_
  refine .w (.move rfl) ?_
  refine .nil (.tn (.block ?_))
  refine .lp (ι := Nat) (fun x => x ≤ A.length ∧ ∀ j, j < x → (fun c => !fitB c) (pcAt A j).2 = false) (fun T x => (8, it (x : Int)) :: T) (fun T _ => T) (fun T _ => T) (fun x => A.length - x) 0 [0, 1, 7] ?_ (fun x hx => ?_)
  · exact ⟨Nat.zero_le _, fun j hj => absurd hj (Nat.not_lt_zero _)⟩
  obtain ⟨hx, hn⟩ := hx
  refine .seq (.region ?_)
  refine .w (.bin rfl rfl BinR.lss_i) ?_
  refine .nil (.tn (.seq ?_))
  refine .cn rfl (fun hc1 => ?_) (fun hc1 => ?_)
  · refine .skip (.tn (.seq (.block (.seq (.region ?_)))))
    refine .w (.move rfl) ?_
    refine .w (.assign rfl) ?_
    refine .nil (.tn (.seq (.region ?_)))
    refine .w (.move rfl) ?_
    refine .w (.move rfl) ?_
    refine .w (.move rfl) ?_
    refine .w (.ix1 Try.underlying23 sz_24 rfl rfl) ?_
    refine JO.open (r := Res.rd (pcAt A x).1 (pcAt A x).2.length 1 ((pcAt A x).2.map u8)) (by repeat (first | exact List.Mem.head _ | refine List.Mem.tail _ ?_)) (pc_res (by omega)) ?_
    refine .w (.ld one_24 rfl (hj := by first | exact pc_get (by omega) | rfl | exact tab_get (by first | omega | (simp; omega)) | exact gm (d := 0) (by first | omega | (simp; omega)))) ?_
    refine JO.callF (f24_spec (pcAt A x).1 (pcAt A x).2) body_24 rfl rfl rfl (by repeat (first | exact Picks.nil _ | apply Picks.cons | exact Pull.here _ _ | apply Pull.there)) (by repeat (first | exact Lends.nil _ | apply Lends.cons | exact Lend.same _ _ | exact Lend.row _ _ _ _ _ _ (by decide) | apply Lend.there)) (by rintro _ _ _ ⟨_, h, _⟩; exact h) (by decide) ?_
    rintro _ _ ⟨_, ⟨rfl, _, rfl⟩, hH⟩
    simp only [List.cons_append, List.nil_append] at hH; subst hH
    refine .nil (.tn ?_)
    refine .cn rfl (fun hc2 => ?_) (fun hc2 => ?_)
    · refine .seq (.region ?_)
      refine .w (.move rfl) ?_
      refine .w (.as (v' := it (ixP (fun c => !fitB c) A)) (.assign rfl) (congrArg it (ix_hit (by omega) (by first | exact hc2 | exact decide_eq_true hc2 | simpa using hc2) hn).symm)) ?_
      refine .nil (.tn (.ret (.block_ret (.then_ret (.then_ret (.block_ret (.then_ret ?_)))))))
      exact .dn [] [] (res1 rfl (.tmp rfl)) ⟨rfl, rfl, rfl⟩
    · refine .skip (.block_normal (.tn (.region ?_)))
      refine .w (.bin rfl rfl (BinR.add_i (by first | (constructor <;> omega) | (constructor <;> simp <;> omega)))) ?_
      refine .w (.move rfl) ?_
      refine .nil ?_
      have hn2 : ∀ j, j < x + 1 → (fun c => !fitB c) (pcAt A j).2 = false := fun j hj => (by
        rcases Nat.lt_succ_iff_lt_or_eq.1 hj with h1 | rfl
        · exact hn j h1
        · first | exact hc2 | exact decide_eq_false hc2 | simpa using hc2)
      refine .hd (x + 1) ?_
      exact ⟨⟨by omega, hn2⟩, by omega⟩
  · obtain rfl : x = A.length := by omega
    refine .exit (.then_exit (.then_exit (.block_exit (.tn (.seq (.region ?_))))))
    refine .w (.as (v' := it (ixP (fun c => !fitB c) A)) (.assign rfl) (congrArg it (ix_none hn).symm)) ?_
    refine .nil (.tn (.ret ?_))
    exact .dn [] [] (res1 rfl (.tmp rfl)) ⟨rfl, rfl, rfl⟩

theorem f23Is_spec (u : Value) (A : Pcs) (q : Nat) (tv : Value) (b : B8) :
    Spec Try.prog 23 #[u, (.func (.func 45) #[] #[ptr q 0])] [Res.rd u A.length 1 (A.map Prod.fst), Res.all (pcRes A), Res.cells q [tv] 24, Res.rd tv b.length 1 (b.map u8)] []
      (fun r Γ' H' => r = (.bool (hasP (isB b) (bytesP A))) ∧ Γ' = [] ∧ H' = []) := by
  refine Spec.of_args Try.func23 rfl Try.ntmps23 (by simp) fun w => ?_
  refine .seq (.region ?_)
  refine .w (.assign rfl) ?_
  refine .nil (.tn (.seq (.region ?_)))
  refine .w (.move rfl) ?_
  refine .w (.move rfl) ?_
  refine .c (f38Is_spec u A q tv b) body_38 ?_
  refine .w (.as (v' := .bool (hasP (isB b) (bytesP A))) (.bin rfl rfl BinR.geq_i) (congrArg Value.bool (ix_has _ _))) ?_
  refine .w (.assign rfl) ?_
  refine .nil (.tn (.ret ?_))
  exact .dn [] [] (res1 rfl (.tmp rfl)) ⟨rfl, rfl, rfl⟩

theorem f23Fit_spec (u : Value) (A : Pcs)  :
    Spec Try.prog 23 #[u, (.func (.func 24) #[] #[])] [Res.rd u A.length 1 (A.map Prod.fst), Res.all (pcRes A)] []
      (fun r Γ' H' => r = (.bool (hasP (fun c => !fitB c) (bytesP A))) ∧ Γ' = [] ∧ H' = []) := by
  refine Spec.of_args Try.func23 rfl Try.ntmps23 (by simp) fun w => ?_
  refine .seq (.region ?_)
  refine .w (.assign rfl) ?_
  refine .nil (.tn (.seq (.region ?_)))
  refine .w (.move rfl) ?_
  refine .w (.move rfl) ?_
  refine .c (f38Fit_spec u A ) body_38 ?_
  refine .w (.as (v' := .bool (hasP (fun c => !fitB c) (bytesP A))) (.bin rfl rfl BinR.geq_i) (congrArg Value.bool (ix_has _ _))) ?_
  refine .w (.assign rfl) ?_
  refine .nil (.tn (.ret ?_))
  exact .dn [] [] (res1 rfl (.tmp rfl)) ⟨rfl, rfl, rfl⟩
end Go.Proofs.Ytffgimlkmfjgmaa
