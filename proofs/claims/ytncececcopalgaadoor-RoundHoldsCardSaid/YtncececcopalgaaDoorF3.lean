/- Walks: a tally. -/
import Derived.Test.YtncececcopalgaaDoorF2
namespace Go.Proofs.YtncececcopalgaaDoor
open Go.RowKit
set_option maxRecDepth 100000
set_option linter.unusedVariables false
set_option linter.unusedSimpArgs false
theorem f26_spec (v : Value) (n : Nat) (xs : List Value) (hn : n ≤ 1000000000) (h1 : ∀ a ∈ xs, a.oneCell' = true) :
    Spec Tryd.prog 26 #[v] [Res.rd v n 1 xs] []
      (fun r Γ' H' => True ∧ Γ' = [] ∧ H' = [Res.row r n 48 1 xs]) := by
  refine Spec.know (φ := ∃ A c, v = .slice A n c ∧ (A = none → xs = []) ∧ xs.length = n * 1 ∧ n ≤ c ∧ n ≤ maxLen) (fun w hs => hs.rdForm (.head _)) ?_
  rintro ⟨A, c, rfl, hA, hl, hc, hm⟩
  refine Spec.of_args Tryd.func26 rfl Tryd.ntmps26 (by simp) fun w => ?_
  refine .seq (.region ?_)
  refine .w (.assign rfl) ?_
  refine .nil (.tn (.seq (.seq (.region ?_))))
  refine .w (.move rfl) ?_
  refine .w (.bin rfl rfl (BinR.eql_s Tryd.underlying22)) ?_
  refine .nil (.tn ?_)
  refine .cn rfl (fun hc1 => ?_) (fun hc1 => ?_)
  · have hA0 : A = none := by cases A <;> simp_all
    have hx := hA hA0
    have hn0 : n = 0 := by rw [hx] at hl; simpa using hl.symm
    subst hx hn0
    refine .seq (.region ?_)
    refine JO.nilRow 48 1 ?_
    refine JO.v (Yv.assign rfl) (by decide) ?_
    refine .nil (.tn (.ret (.then_ret ?_)))
    exact .dn [] [Res.row (.slice none 0 0) 0 48 1 []] (res1 rfl (.tmp rfl)) ⟨trivial, rfl, rfl⟩
  · refine .skip (.tn (.seq (.region ?_)))
    refine .le Tryd.underlying22 sz_48 fun v5 => ?_
    refine .w (.move rfl) ?_
    refine .ap Tryd.underlying22 info_48 (fun v7 => ?_) (hone := h1)
    refine .w (.assign rfl) ?_
    refine .nil (.tn (.ret ?_))
    exact .dn [] [Res.row _ (0 + n) 48 1 ([] ++ xs)] (res1 rfl (.tmp rfl)) ⟨trivial, rfl, by rw [Nat.zero_add, List.nil_append]⟩

theorem eql_dig {x y : Operand} {a b : D32} : BinR Tryd.prog .eql 24 x y (dgV a) (dgV b) (.bool (decide (a = b))) := by
  have := BinR.eql_arr (P := Tryd.prog) (x := x) (y := y) (f := u8) (g := fun x => (x.toNat : Int)) (k := .u8) Tryd.underlying24 Tryd.underlying5 sz_5 (by kernel_rfl) (fun _ => rfl) (fun _ _ h => u8_inj h) a.1 b.1 a.2 b.2
  rw [d32_eq] at this
  exact this
theorem neq_dig {x y : Operand} {a b : D32} : BinR Tryd.prog .neq 24 x y (dgV a) (dgV b) (.bool (decide (a ≠ b))) := by
  have := BinR.neq_arr (P := Tryd.prog) (x := x) (y := y) (f := u8) (g := fun x => (x.toNat : Int)) (k := .u8) Tryd.underlying24 Tryd.underlying5 sz_5 (by kernel_rfl) (fun _ => rfl) (fun _ _ h => u8_inj h) a.1 b.1 a.2 b.2
  rw [d32_neq] at this
  exact this

theorem f62_spec (who : Int) (x v : D32) (bv bt p a b : Nat) (sv : Value) (al : W64) (S : List W64) (h0 : 0 ≤ who) (h1 : who < S.length) :
    Spec Tryd.prog 62 #[(it who), (dgV x), (ptr bv 0), (ptr bt 0)] [Res.cells bv (v.1.map u8) 24, Res.cells bt [ptr p 0] 67, Res.cells p [sv, u64 al, .map (some a), .map (some b)] 94, Res.rd sv S.length 1 (S.map u64)] []
      (fun r Γ' H' => r = (u64 (BitVec.ofNat 64 (forW S v (who, x, 0)))) ∧ Γ' = [] ∧ H' = []) := by
  refine Spec.of_args Tryd.func62 rfl Tryd.ntmps62 (by simp) fun w => ?_
  obtain ⟨i, rfl⟩ : ∃ i : Nat, who = i := ⟨who.toNat, by omega⟩
  refine .seq (.region ?_)
  refine .bx fun b5 => ?_
  refine .w (.assign rfl) ?_
  refine .nil (.tn (.seq (.seq (.region ?_))))
  refine .w (.as (v' := dgV x) (.lda agg_24 rfl) rfl) ?_
  refine .w (.as (v' := dgV v) (.lda agg_24 rfl) rfl) ?_
  refine .w (.bin rfl rfl (neq_dig)) ?_
  refine .nil (.tn ?_)
  refine .cn rfl (fun hc1 => ?_) (fun hc1 => ?_)
  · rw [forW, if_neg hc1]
    refine .seq (.region ?_)
    refine .w (.assign rfl) ?_
    refine .nil (.tn (.ret (.then_ret ?_)))
    exact .dn [] [] (res1 rfl (.tmp rfl)) ⟨rfl, rfl, rfl⟩
  · have hxv : x = v := hc1
    rw [forW, if_pos hxv]
    refine .skip (.tn (.seq (.region ?_)))
    refine .w (.ld one_67 rfl) ?_
    refine .w (.nilCheck rfl) ?_
    refine .w (.fieldAddr fa_94_0 rfl) ?_
    refine .w (.ld one_22 rfl) ?_
    refine .w (.move rfl) ?_
    refine .w (.ix1 Tryd.underlying22 sz_48 rfl rfl) ?_
    refine .w (.as (v' := u64 (BitVec.ofNat 64 (stk S (i : Int)))) (.ld one_48 rfl) (by simp [stk])) ?_
    refine .w (.assign rfl) ?_
    refine .nil (.tn (.ret ?_))
    exact .dn [] [] (res1 rfl (.tmp rfl)) ⟨rfl, rfl, rfl⟩

theorem f61_spec (who : Int) (x : D32) (bt p a b : Nat) (sv : Value) (al : W64) (S : List W64) (h0 : 0 ≤ who) (h1 : who < S.length) :
    Spec Tryd.prog 61 #[(it who), (dgV x), (ptr bt 0)] [Res.cells bt [ptr p 0] 67, Res.cells p [sv, u64 al, .map (some a), .map (some b)] 94, Res.rd sv S.length 1 (S.map u64)] []
      (fun r Γ' H' => r = (u64 (BitVec.ofNat 64 (anyW S (who, x, 0)))) ∧ Γ' = [] ∧ H' = []) := by
  refine Spec.of_args Tryd.func61 rfl Tryd.ntmps61 (by simp) fun w => ?_
  obtain ⟨i, rfl⟩ : ∃ i : Nat, who = i := ⟨who.toNat, by omega⟩
  refine .seq (.region ?_)
  refine .bx fun b4 => ?_
  refine .w (.assign rfl) ?_
  refine .nil (.tn (.seq (.region ?_)))
  refine .w (.ld one_67 rfl) ?_
  refine .w (.nilCheck rfl) ?_
  refine .w (.fieldAddr fa_94_0 rfl) ?_
  refine .w (.ld one_22 rfl) ?_
  refine .w (.move rfl) ?_
  refine .w (.ix1 Tryd.underlying22 sz_48 rfl rfl) ?_
  refine .w (.as (v' := u64 (BitVec.ofNat 64 (anyW S ((i : Int), x, 0)))) (.ld one_48 rfl) (by simp [anyW, stk])) ?_
  refine .w (.assign rfl) ?_
  refine .nil (.tn (.ret ?_))
  exact .dn [] [] (res1 rfl (.tmp rfl)) ⟨rfl, rfl, rfl⟩

theorem f60For_spec (v : D32) (bv : Nat) (bt : Nat) (p a b : Nat) (sv : Value) (al : W64) (S : List W64) (m : MM Int D32) (hT : TOk S m) (hS : sumS S < 18446744073709551616) :
    Spec Tryd.prog 60 #[(.map (some a)), (.func (.func 62) #[] #[ptr bv 0, ptr bt 0])] [Res.cells bv (v.1.map u8) 24, Res.cells bt [ptr p 0] 67, Res.cells p [sv, u64 al, .map (some a), .map (some b)] 94, Res.rd sv S.length 1 (S.map u64), mpR a itK dgV m] []
      (fun r Γ' H' => r = (u64 (BitVec.ofNat 64 (gsum (forW S v) m.es))) ∧ Γ' = [] ∧ H' = []) := by
  refine Spec.of_args Tryd.func60 rfl Tryd.ntmps60 (by simp) fun w => ?_
  refine .seq (.region ?_)
  refine .w (.assign rfl) ?_
  refine .nil (.tn (.seq (.region ?_)))
  refine .w (.assign rfl) ?_
  refine .nil (.tn (.seq (.seq (.region ?_))))
  refine .w (.move rfl) ?_
  refine .rg Tryd.underlying91 fun r9 => ?_
  refine .nil (.tn (.block ?_))
  refine .lp (ι := List VE) (fun x => m.Walk x) (fun T x => (5, u64 (BitVec.ofNat 64 (gsum (forW S v) x))) :: T) (fun T _ => T) (fun T x => miR r9 a m x :: T) (fun x => m.es.length - x.length) ([]) [1, 4, 9, 21] ?_ (fun x hx => ?_)
  · exact MM.Walk.nil
  have hW := hx
  refine .seq (.region ?_)
  refine .nx hT.ok hW ?_ ?_
  · intro hp
    refine .w (.extract rfl rfl) ?_
    refine .nil (.tn (.seq ?_))
    refine .cf rfl ?_
    refine .exit (.then_exit (.then_exit (.block_exit (.tn (.seq (.region ?_))))))
    refine .w (.move rfl) ?_
    refine .w (.assign rfl) ?_
    refine .nil (.tn (.ret ?_))
    exact .dn [] [] (res1 rfl (.tmp rfl)) ⟨by rw [gsum_perm hp], rfl, rfl⟩
  · intro e he hnp hw2
    refine .w (.extract rfl rfl) ?_
    refine .nil (.tn (.seq ?_))
    refine .ct rfl ?_
    refine .skip (.tn (.block (.seq (.region ?_))))
    refine .w (.en hT.ok he) ?_
    refine .w (.as (v' := it e.1) (.extract rfl rfl) rfl) ?_
    refine .w (.as (v' := dgV e.2.1) (.extract rfl rfl) rfl) ?_
    refine .al zero_24 fun b7 => ?_
    refine .w (.assign rfl) ?_
    first | refine .sa sz_24 ?_ | refine .so sz_24 ?_ | refine .sr sz_24 ?_
    refine .nil (.tn (.region ?_))
    refine .w (.move rfl) ?_
    refine .w (.move rfl) ?_
    refine .w (.move rfl) ?_
    refine .w (.as (v' := dgV e.2.1) (.lda agg_24 rfl) rfl) ?_
    refine JO.callF (f62_spec e.1 e.2.1 v bv bt p a b sv al S (hT.rng e he).1 (hT.rng e he).2) body_62 rfl rfl rfl (by repeat (first | exact Picks.nil _ | apply Picks.cons | exact Pull.here _ _ | apply Pull.there)) (by repeat (first | exact Lends.nil _ | apply Lends.cons | exact Lend.same _ _ | exact Lend.row _ _ _ _ _ _ (by decide) | apply Lend.there)) (by rintro _ _ _ ⟨_, h, _⟩; exact h) (by decide) ?_
    rintro _ _ ⟨_, ⟨rfl, _, rfl⟩, hH⟩
    simp only [List.cons_append, List.nil_append] at hH; subst hH
    refine .w (.as (v' := u64 (BitVec.ofNat 64 (gsum (forW S v) (x ++ [e])))) (.bin rfl rfl (BinR.add_u64)) (by rw [gsum_snoc, BitVec.ofNat_add]; rfl)) ?_
    refine .w (.assign rfl) ?_
    refine .nil (.block_normal ?_)
    refine .hd (x ++ [e]) ?_
    exact ⟨hw2, by have := walk_len hw2; simp at this ⊢; omega⟩

theorem f60Any_spec (bt : Nat) (p a b : Nat) (sv : Value) (al : W64) (S : List W64) (m : MM Int D32) (hT : TOk S m) (hS : sumS S < 18446744073709551616) :
    Spec Tryd.prog 60 #[(.map (some a)), (.func (.func 61) #[] #[ptr bt 0])] [Res.cells bt [ptr p 0] 67, Res.cells p [sv, u64 al, .map (some a), .map (some b)] 94, Res.rd sv S.length 1 (S.map u64), mpR a itK dgV m] []
      (fun r Γ' H' => r = (u64 (BitVec.ofNat 64 (gsum (anyW S) m.es))) ∧ Γ' = [] ∧ H' = []) := by
  refine Spec.of_args Tryd.func60 rfl Tryd.ntmps60 (by simp) fun w => ?_
  refine .seq (.region ?_)
  refine .w (.assign rfl) ?_
  refine .nil (.tn (.seq (.region ?_)))
  refine .w (.assign rfl) ?_
  refine .nil (.tn (.seq (.seq (.region ?_))))
  refine .w (.move rfl) ?_
  refine .rg Tryd.underlying91 fun r9 => ?_
  refine .nil (.tn (.block ?_))
  refine .lp (ι := List VE) (fun x => m.Walk x) (fun T x => (5, u64 (BitVec.ofNat 64 (gsum (anyW S) x))) :: T) (fun T _ => T) (fun T x => miR r9 a m x :: T) (fun x => m.es.length - x.length) ([]) [1, 4, 9, 21] ?_ (fun x hx => ?_)
  · exact MM.Walk.nil
  have hW := hx
  refine .seq (.region ?_)
  refine .nx hT.ok hW ?_ ?_
  · intro hp
    refine .w (.extract rfl rfl) ?_
    refine .nil (.tn (.seq ?_))
    refine .cf rfl ?_
    refine .exit (.then_exit (.then_exit (.block_exit (.tn (.seq (.region ?_))))))
    refine .w (.move rfl) ?_
    refine .w (.assign rfl) ?_
    refine .nil (.tn (.ret ?_))
    exact .dn [] [] (res1 rfl (.tmp rfl)) ⟨by rw [gsum_perm hp], rfl, rfl⟩
  · intro e he hnp hw2
    refine .w (.extract rfl rfl) ?_
    refine .nil (.tn (.seq ?_))
    refine .ct rfl ?_
    refine .skip (.tn (.block (.seq (.region ?_))))
    refine .w (.en hT.ok he) ?_
    refine .w (.as (v' := it e.1) (.extract rfl rfl) rfl) ?_
    refine .w (.as (v' := dgV e.2.1) (.extract rfl rfl) rfl) ?_
    refine .al zero_24 fun b7 => ?_
    refine .w (.assign rfl) ?_
    first | refine .sa sz_24 ?_ | refine .so sz_24 ?_ | refine .sr sz_24 ?_
    refine .nil (.tn (.region ?_))
    refine .w (.move rfl) ?_
    refine .w (.move rfl) ?_
    refine .w (.move rfl) ?_
    refine .w (.as (v' := dgV e.2.1) (.lda agg_24 rfl) rfl) ?_
    refine JO.callF (f61_spec e.1 e.2.1 bt p a b sv al S (hT.rng e he).1 (hT.rng e he).2) body_61 rfl rfl rfl (by repeat (first | exact Picks.nil _ | apply Picks.cons | exact Pull.here _ _ | apply Pull.there)) (by repeat (first | exact Lends.nil _ | apply Lends.cons | exact Lend.same _ _ | exact Lend.row _ _ _ _ _ _ (by decide) | apply Lend.there)) (by rintro _ _ _ ⟨_, h, _⟩; exact h) (by decide) ?_
    rintro _ _ ⟨_, ⟨rfl, _, rfl⟩, hH⟩
    simp only [List.cons_append, List.nil_append] at hH; subst hH
    refine .w (.as (v' := u64 (BitVec.ofNat 64 (gsum (anyW S) (x ++ [e])))) (.bin rfl rfl (BinR.add_u64)) (by rw [gsum_snoc, BitVec.ofNat_add]; rfl)) ?_
    refine .w (.assign rfl) ?_
    refine .nil (.block_normal ?_)
    refine .hd (x ++ [e]) ?_
    exact ⟨hw2, by have := walk_len hw2; simp at this ⊢; omega⟩

theorem f59_spec (p a b : Nat) (sv : Value) (al : W64) (S : List W64) (m : MM Int D32) (v : D32) (hT : TOk S m) (hS : sumS S < 18446744073709551616) :
    Spec Tryd.prog 59 #[(ptr p 0), (dgV v)] [Res.cells p [sv, u64 al, .map (some a), .map (some b)] 94, Res.rd sv S.length 1 (S.map u64), mpR a itK dgV m] []
      (fun r Γ' H' => r = (u64 (BitVec.ofNat 64 (forA S m.get v))) ∧ Γ' = [] ∧ H' = []) := by
  refine Spec.of_args Tryd.func59 rfl Tryd.ntmps59 (by simp) fun w => ?_
  refine .seq (.region ?_)
  refine .bx fun b2 => ?_
  refine .bx fun b3 => ?_
  refine .w (.assign rfl) ?_
  refine .nil (.tn (.seq (.region ?_)))
  refine .w (.ld one_67 rfl) ?_
  refine .w (.nilCheck rfl) ?_
  refine .w (.fieldAddr fa_94_2 rfl) ?_
  refine .w (.ld one_91 rfl) ?_
  refine .w (.makeFunc rfl rfl) ?_
  refine .c (f60For_spec v b3 b2 p a b sv al S m hT hS) body_60 ?_
  rw [for_by hT]
  refine .w (.assign rfl) ?_
  refine .nil (.tn (.ret ?_))
  exact .dn [] [] (res1 rfl (.tmp rfl)) ⟨rfl, rfl, rfl⟩

theorem f58_spec (p a b : Nat) (sv : Value) (al : W64) (S : List W64) (m : MM Int D32) (hT : TOk S m) (hS : sumS S < 18446744073709551616) :
    Spec Tryd.prog 58 #[(ptr p 0)] [Res.cells p [sv, u64 al, .map (some a), .map (some b)] 94, Res.rd sv S.length 1 (S.map u64), mpR a itK dgV m] []
      (fun r Γ' H' => r = (u64 (BitVec.ofNat 64 (anyA S m.get))) ∧ Γ' = [] ∧ H' = []) := by
  refine Spec.of_args Tryd.func58 rfl Tryd.ntmps58 (by simp) fun w => ?_
  refine .seq (.region ?_)
  refine .bx fun b1 => ?_
  refine .w (.assign rfl) ?_
  refine .nil (.tn (.seq (.region ?_)))
  refine .w (.ld one_67 rfl) ?_
  refine .w (.nilCheck rfl) ?_
  refine .w (.fieldAddr fa_94_2 rfl) ?_
  refine .w (.ld one_91 rfl) ?_
  refine .w (.makeFunc rfl rfl) ?_
  refine .c (f60Any_spec b1 p a b sv al S m hT hS) body_60 ?_
  rw [any_by hT]
  refine .w (.assign rfl) ?_
  refine .nil (.tn (.ret ?_))
  exact .dn [] [] (res1 rfl (.tmp rfl)) ⟨rfl, rfl, rfl⟩

theorem f56_spec (p a b : Nat) (sv : Value) (al : W64) (S : List W64) (m : MM Int D32) (who : Int) :
    Spec Tryd.prog 56 #[(ptr p 0), (it who)] [Res.cells p [sv, u64 al, .map (some a), .map (some b)] 94, mpR a itK dgV m] []
      (fun r Γ' H' => r = (.tuple #[dgV ((m.get who).getD D0), .bool (m.get who).isSome]) ∧ Γ' = [] ∧ H' = []) := by
  refine Spec.of_args Tryd.func56 rfl Tryd.ntmps56 (by simp) fun w => ?_
  refine .seq (.region ?_)
  refine .al zero_24 fun b4 => ?_
  refine .w (.assign rfl) ?_
  refine .nil (.tn (.seq (.region ?_)))
  refine .w (.move rfl) ?_
  refine .w (.nilCheck rfl) ?_
  refine .w (.fieldAddr fa_94_2 rfl) ?_
  refine .w (.ld one_91 rfl) ?_
  refine .w (.move rfl) ?_
  refine .w (.as (v' := .tuple #[dgV ((m.get who).getD D0), .bool (m.get who).isSome]) (.lk2 who Tryd.underlying91 mkey_91 zf_24) (by cases m.get who <;> rfl)) ?_
  refine .w (.move rfl) ?_
  refine .w (.as (v' := dgV ((m.get who).getD D0)) (.extract rfl rfl) rfl) ?_
  refine .w (.as (v' := .bool (m.get who).isSome) (.extract rfl rfl) rfl) ?_
  refine .al zero_24 fun b6 => ?_
  first | refine .sa sz_24 ?_ | refine .so sz_24 ?_ | refine .sr sz_24 ?_
  refine .w (.assign rfl) ?_
  refine .nil (.tn (.seq (.region ?_)))
  refine .w (.as (v' := dgV ((m.get who).getD D0)) (.lda agg_24 rfl) rfl) ?_
  refine .w (.move rfl) ?_
  first | refine .sa sz_24 ?_ | refine .so sz_24 ?_ | refine .sr sz_24 ?_
  refine .w (.assign rfl) ?_
  refine .nil (.tn (.ret ?_))
  exact .dn [] [] (res2 rfl (.cl agg_24) (.tmp rfl)) ⟨rfl, rfl, rfl⟩
end Go.Proofs.YtncececcopalgaaDoor
