/- Walk: DeleteFunc. -/
import Derived.Test.YtffgimlkmfjgmaaP1
namespace Go.Proofs.Ytffgimlkmfjgmaa
open Go.RowKit
set_option maxRecDepth 100000
set_option linter.unusedVariables false
set_option linter.unusedSimpArgs false
theorem f36_spec (u : Value) (A : Pcs) (hl : A.length ≤ 1000) (q : Nat) (tv : Value) (b : B8) :
    Spec Try.prog 36 #[u, (.func (.func 45) #[] #[ptr q 0])] [Res.all (pcRes A), Res.cells q [tv] 24, Res.rd tv b.length 1 (b.map u8)] [Res.row u A.length 24 1 (A.map Prod.fst)]
      (fun r Γ' H' => True ∧ Γ' = [] ∧ H' = [Res.row r (notP (isB b) A).length 24 1 ((notP (isB b) A).map Prod.fst)]) := by
  refine Spec.of_args Try.func36 rfl Try.ntmps36 (by simp) fun w => ?_
  refine JC.know (φ := ∀ a ∈ A.map Prod.fst, a.oneCell' = true) (fun w hs => pcs_one (hs.gok _ (.head _))) fun hone => ?_
  refine .seq (.region ?_)
  refine .w (.assign rfl) ?_
  refine .nil (.tn (.seq (.region ?_)))
  refine .w (.move rfl) ?_
  refine .w (.move rfl) ?_
  refine .c (f38Is_spec u A q tv b) body_38 ?_
  refine .w (.assign rfl) ?_
  refine .nil (.tn (.seq (.seq (.region ?_))))
  refine .w (.move rfl) ?_
  refine .w (.bin rfl rfl BinR.eql_i) ?_
  refine .nil (.tn ?_)
  refine .cn rfl (fun hc1 => ?_) (fun hc1 => ?_)
  · have hk : notP (isB b) A = A := by
      rcases ix_is (isB b) A with ⟨_, h⟩ | ⟨i, h, _⟩
      · exact h
      · exact absurd hc1 (by rw [h]; omega)
    refine .seq (.region ?_)
    refine .w (.move rfl) ?_
    refine .w (.assign rfl) ?_
    refine .nil (.tn (.ret (.then_ret ?_)))
    exact .dn [] [Res.row u A.length 24 1 (A.map Prod.fst)] (res1 rfl (.tmp rfl)) ⟨trivial, rfl, by rw [hk]⟩
  · obtain ⟨i, hi1, hi2, hi3⟩ := (ix_is (isB b) A).resolve_left fun h => hc1 h.1
    refine JC.know (φ := ∃ g c, u = .slice (some ⟨g, 0, none⟩) A.length c ∧ A.length ≤ c) (fun w hs => hs.rowForm2 (.head _) (by omega)) fun hu => ?_
    obtain ⟨g, c, hu, hnc⟩ := hu
    subst hu
    refine .skip (.tn (.seq (.seq (.region ?_))))
    refine .w (.as (v' := it (i : Int)) (.move rfl) (congrArg it hi1)) ?_
    refine .w (.asI ((i + 1 : Nat) : Int) (.bin rfl rfl (BinR.add_i (by first | (constructor <;> omega) | (constructor <;> simp <;> omega))))) ?_
    refine .w (.assign rfl) ?_
    refine .nil (.tn (.block ?_))
    refine .lp (ι := Pcs × Nat × Nat) (fun x => x.1.length = A.length ∧ x.2.1 < x.2.2 ∧ x.2.2 ≤ A.length ∧ x.1.take x.2.1 = notP (isB b) (A.take x.2.2) ∧ ∀ k, x.2.2 ≤ k → pcAt x.1 k = pcAt A k) (fun T x => (5, it (x.2.1 : Int)) :: (6, it (x.2.2 : Int)) :: T) (fun T _ => T) (fun T x => Res.row (.slice (some ⟨g, 0, none⟩) A.length c) A.length 24 1 (x.1.map Prod.fst) :: T) (fun x => A.length - x.2.2) (A, i, i + 1) [0, 1, 4, 36, 37, 38, 39, 40, 41] ?_ (fun x hx => ?_) (hE := (by dsimp only; rw [hi1]; repeat (first | exact trivial | refine ⟨by first | rfl | (simp; done), ?_⟩)))
    · exact ⟨rfl, by dsimp only; omega, by dsimp only; omega, hi3.symm, fun _ _ => rfl⟩
    obtain ⟨zs, i, j⟩ := x
    obtain ⟨hz1, hz2, hz4, hz3, hz5⟩ := hx
    dsimp only at hz1 hz2 hz3 hz4 hz5 ⊢
    refine .seq (.seq (.region ?_))
    refine .w (.move rfl) ?_
    refine .w (.move rfl) ?_
    refine .w (.len Try.underlying23 rfl) ?_
    refine .w (.bin rfl rfl BinR.lss_i) ?_
    refine .nil (.tn ?_)
    refine .cn rfl (fun hc2 => ?_) (fun hc2 => ?_)
    · refine .skip (.tn (.seq (.block (.seq (.region ?_)))))
      refine .w (.move rfl) ?_
      refine .w (.move rfl) ?_
      refine .w (.ix1 Try.underlying23 sz_24 rfl rfl) ?_
      refine .w (.ld one_24 rfl (hj := by exact (pc_get (by omega)).trans (congrArg (fun x : Value × B8 => some x.1) (hz5 _ (Nat.le_refl _))))) ?_
      refine .w (.assign rfl) ?_
      refine .nil (.tn (.seq (.region ?_)))
      refine JO.open (r := Res.rd (pcAt A j).1 (pcAt A j).2.length 1 ((pcAt A j).2.map u8)) (by repeat (first | exact List.Mem.head _ | refine List.Mem.tail _ ?_)) (pc_res (by omega)) ?_
      refine .w (.move rfl) ?_
      refine .w (.move rfl) ?_
      refine JO.callF (f45_spec q tv b (pcAt A j).1 (pcAt A j).2) body_45 rfl rfl rfl (by repeat (first | exact Picks.nil _ | apply Picks.cons | exact Pull.here _ _ | apply Pull.there)) (by repeat (first | exact Lends.nil _ | apply Lends.cons | exact Lend.same _ _ | exact Lend.row _ _ _ _ _ _ (by decide) | apply Lend.there)) (by rintro _ _ _ ⟨_, h, _⟩; exact h) (by decide) ?_
      rintro _ _ ⟨_, ⟨rfl, _, rfl⟩, hH⟩
      simp only [List.cons_append, List.nil_append] at hH; subst hH
      refine .w (.not rfl) ?_
      refine .nil (.tn ?_)
      refine .cn rfl (fun hc3 => ?_) (fun hc3 => ?_)
      · have hp : (isB b) (pcAt A j).2 = false := by first | exact decide_eq_false hc3 | exact hc3 | simpa using hc3
        have hkeep : notP (isB b) (A.take (j + 1)) = notP (isB b) (A.take j) ++ [pcAt A j] := by rw [not_succ (by omega), hp]; rfl
        refine .seq (.region ?_)
        refine .w (.move rfl) ?_
        refine .w (.move rfl) ?_
        refine .w (.move rfl) ?_
        refine .w (.ix1 Try.underlying23 sz_24 rfl rfl) ?_
        refine .sr1 sz_24 ?_ (h1 := hone _ (List.mem_map.2 ⟨_, pc_mem (by omega), rfl⟩))
        rw [← List.map_set]
        refine .nil (.tn (.region ?_))
        refine .w (.move rfl) ?_
        refine .w (.asI ((i + 1 : Nat) : Int) (.bin rfl rfl (BinR.add_i (by first | (constructor <;> omega) | (constructor <;> simp <;> omega))))) ?_
        refine .w (.assign rfl) ?_
        refine .nil (.block_normal (.tn (.region ?_)))
        refine .w (.move rfl) ?_
        refine .w (.asI ((j + 1 : Nat) : Int) (.bin rfl rfl (BinR.add_i (by first | (constructor <;> omega) | (constructor <;> simp <;> omega))))) ?_
        refine .w (.assign rfl) ?_
        refine .nil ?_
        refine .hd (zs.set i (pcAt A j), i + 1, j + 1) ?_
        refine ⟨⟨by simp [hz1], by dsimp only; omega, by dsimp only; omega, ?_, fun k hk => ?_⟩, by dsimp only; omega⟩
        · dsimp only
          first | rw [pc_set_take (by omega), hz3, hkeep] | rw [hz3, hkeep]
        · dsimp only at hk ⊢
          first | exact hz5 k (by omega) | (rw [pcAt, List.getD_eq_getElem?_getD, List.getElem?_set_ne (by omega), ← List.getD_eq_getElem?_getD]; exact hz5 k (by omega))
      · have hp : (isB b) (pcAt A j).2 = true := by first | exact decide_eq_true hc3 | exact hc3 | simpa using hc3
        have hkeep : notP (isB b) (A.take (j + 1)) = notP (isB b) (A.take j) := by rw [not_succ (by omega), hp]; simp
        refine .skip (.block_normal (.tn (.region ?_)))
        refine .w (.move rfl) ?_
        refine .w (.asI ((j + 1 : Nat) : Int) (.bin rfl rfl (BinR.add_i (by first | (constructor <;> omega) | (constructor <;> simp <;> omega))))) ?_
        refine .w (.assign rfl) ?_
        refine .nil ?_
        refine .hd (zs, i, j + 1) ?_
        refine ⟨⟨by simp [hz1], by dsimp only; omega, by dsimp only; omega, ?_, fun k hk => ?_⟩, by dsimp only; omega⟩
        · dsimp only
          first | rw [pc_set_take (by omega), hz3, hkeep] | rw [hz3, hkeep]
        · dsimp only at hk ⊢
          first | exact hz5 k (by omega) | (rw [pcAt, List.getD_eq_getElem?_getD, List.getElem?_set_ne (by omega), ← List.getD_eq_getElem?_getD]; exact hz5 k (by omega))
    · obtain rfl : j = A.length := by omega
      rw [List.take_length] at hz3
      refine .exit (.then_exit (.then_exit (.block_exit (.tn (.seq (.region ?_))))))
      refine .w (.move rfl) ?_
      refine .w (.move rfl) ?_
      refine JO.v (Yv.cutSl Try.underlying23 sz_24 rfl rfl (by omega) (by omega) (by omega)) (by decide) ?_
      refine JO.clearRow (v := (.slice (some ⟨g, 0, none⟩) A.length c)) (m := A.length - i) (o := 0 + i * 1) rfl Try.underlying23 info_24 rfl (by decide) rfl (by omega) (by repeat (first | exact Upd.here _ _ _ | apply Upd.there)) (by omega) (by omega) ?_
      refine .nil (.tn (.seq (.region ?_)))
      refine .w (.move rfl) ?_
      refine .w (.move rfl) ?_
      refine .cr i Try.underlying23 sz_24 (fun v41 => ?_)
      rw [row_spl (by omega), hz3]
      refine .w (.assign rfl) ?_
      refine .nil (.tn (.ret ?_))
      exact .dn [] [Res.row _ (notP (isB b) A).length 24 1 ((notP (isB b) A).map Prod.fst)] (res1 rfl (.tmp rfl)) ⟨trivial, rfl, rfl⟩
end Go.Proofs.Ytffgimlkmfjgmaa
