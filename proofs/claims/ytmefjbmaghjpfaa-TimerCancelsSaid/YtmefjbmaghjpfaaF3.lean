/- Walks: adding, taking. -/
import Derived.Test.YtmefjbmaghjpfaaF2
namespace Go.Proofs.Ytmefjbmaghjpfaa
open Go.RowKit
set_option maxRecDepth 100000
set_option linter.unusedVariables false
set_option linter.unusedSimpArgs false

theorem f18_spec (p : Nat) (v ov : Value) (xs : List En) :
    Spec Try.prog 18 #[(ptr p 0)] [Res.cells p [v, ov] 28, Res.rd v xs.length 3 (enC xs)] []
      (fun r Γ' H' => ∃ q, r = ptr q 0 ∧ Γ' = [] ∧ H' = [Res.cells q [v, (.func (.func 25) #[] #[])] 62]) := by
  refine Spec.of_args Try.func18 rfl Try.ntmps18 (by simp) fun w => ?_
  refine JC.know (φ := ∃ A c, v = .slice A xs.length c) (fun w hs => by obtain ⟨A, c, h1, _⟩ := hs.rdForm (.tail _ (.head _)); exact ⟨A, c, h1⟩) fun ⟨A, c, hv⟩ => ?_
  subst hv
  refine JC.seq ?_
  refine JC.region ?_
  refine JO.v (Yv.assign rfl) (by decide) ?_
  refine JO.nil ?_
  refine JQ.then_normal ?_
  refine JC.seq ?_
  refine JC.region ?_
  refine JO.v (Yv.move rfl) (by decide) ?_
  refine JO.v (Yv.nilCheck rfl) (by decide) ?_
  refine JO.v (Yv.fieldAddr fa_28_0 rfl) (by decide) ?_
  refine JO.v (Yv.load1 one_26 rfl (by first | exact Kn.own (by repeat (first | exact List.Mem.head _ | refine List.Mem.tail _ ?_)) (by first  | rfl | exact tab_get (by first | omega | (simp; omega)) | exact gm (d := 0) (by first | omega | (simp; omega))) | exact Kn.ro (by repeat (first | exact List.Mem.head _ | refine List.Mem.tail _ ?_)) (by first  | rfl | exact tab_get (by first | omega | (simp; omega)) | exact gm (d := 0) (by first | omega | (simp; omega))) | exact Kn.row (by repeat (first | exact List.Mem.head _ | refine List.Mem.tail _ ?_)) (by first  | rfl | exact tab_get (by first | omega | (simp; omega)) | exact gm (d := 0) (by first | omega | (simp; omega))) | exact Kn.rd (by repeat (first | exact Lend.same _ _ | exact Lend.row _ _ _ _ _ _ (by decide) | apply Lend.there)) (by first  | rfl | exact tab_get (by first | omega | (simp; omega)) | exact gm (d := 0) (by first | omega | (simp; omega))) | exact Kn.rd2 (by repeat (first | exact Lend.same _ _ | exact Lend.row _ _ _ _ _ _ (by decide) | apply Lend.there)) (by first  | rfl | exact tab_get (by first | omega | (simp; omega)) | exact gm (d := 0) (by first | omega | (simp; omega))))) (by decide) ?_
  refine JO.v (Yv.build bld_62 rfl rfl) (by decide) ?_
  refine JO.box rfl _ rfl (by decide) fun b8 => ?_
  refine JO.v (Yv.assign rfl) (by decide) ?_
  refine JO.nil ?_
  refine JQ.then_normal ?_
  refine JC.ret ?_
  exact JQ.done (.inr rfl) (Γ' := []) (H' := [Res.cells _ _ 62]) (res1 rfl (RV.tmp rfl)) (Subs.sub (by repeat (first | exact Subs.nil _ | apply Subs.cons | exact List.Mem.head _ | refine List.Mem.tail _ ?_))) (Picks.perm (by repeat (first | exact Picks.nil _ | apply Picks.cons | exact Pull.here _ _ | apply Pull.there))) ⟨_, rfl, rfl, rfl⟩


theorem f9_spec (p : Nat) (v ov : Value) (hs : List En) :
    Spec Try.prog 9 #[(ptr p 0)] [Res.cells p [v, ov] 28, Res.rd v hs.length 3 (enC hs)] []
      (fun r Γ' H' => r = (it (hs.length : Int)) ∧ Γ' = [] ∧ H' = []) := by
  refine Spec.of_args Try.func9 rfl Try.ntmps9 (by simp) fun w => ?_
  refine JC.seq ?_
  refine JC.region ?_
  refine JO.v (Yv.assign rfl) (by decide) ?_
  refine JO.nil ?_
  refine JQ.then_normal ?_
  refine JC.seq ?_
  refine JC.region ?_
  refine JO.v (Yv.move rfl) (by decide) ?_
  refine JO.v (Yv.nilCheck rfl) (by decide) ?_
  refine JO.v (Yv.fieldAddr fa_28_0 rfl) (by decide) ?_
  refine JO.v (Yv.load1 one_26 rfl (by first | exact Kn.own (by repeat (first | exact List.Mem.head _ | refine List.Mem.tail _ ?_)) (by first  | rfl | exact tab_get (by first | omega | (simp; omega)) | exact gm (d := 0) (by first | omega | (simp; omega))) | exact Kn.ro (by repeat (first | exact List.Mem.head _ | refine List.Mem.tail _ ?_)) (by first  | rfl | exact tab_get (by first | omega | (simp; omega)) | exact gm (d := 0) (by first | omega | (simp; omega))) | exact Kn.row (by repeat (first | exact List.Mem.head _ | refine List.Mem.tail _ ?_)) (by first  | rfl | exact tab_get (by first | omega | (simp; omega)) | exact gm (d := 0) (by first | omega | (simp; omega))) | exact Kn.rd (by repeat (first | exact Lend.same _ _ | exact Lend.row _ _ _ _ _ _ (by decide) | apply Lend.there)) (by first  | rfl | exact tab_get (by first | omega | (simp; omega)) | exact gm (d := 0) (by first | omega | (simp; omega))) | exact Kn.rd2 (by repeat (first | exact Lend.same _ _ | exact Lend.row _ _ _ _ _ _ (by decide) | apply Lend.there)) (by first  | rfl | exact tab_get (by first | omega | (simp; omega)) | exact gm (d := 0) (by first | omega | (simp; omega))))) (by decide) ?_
  first | refine JO.v (Yv.len_s Try.underlying26 rfl) (by decide) ?_ | refine JO.v (Yv.lenRd Try.underlying26 rfl (by repeat (first | exact Lend.same _ _ | exact Lend.row _ _ _ _ _ _ (by decide) | apply Lend.there))) (by decide) ?_
  refine JO.v (Yv.assign rfl) (by decide) ?_
  refine JO.nil ?_
  refine JQ.then_normal ?_
  refine JC.ret ?_
  exact JQ.done (.inr rfl) (Γ' := []) (H' := []) (res1 rfl (RV.tmp rfl)) (Subs.sub (by repeat (first | exact Subs.nil _ | apply Subs.cons | exact List.Mem.head _ | refine List.Mem.tail _ ?_))) (Picks.perm (by repeat (first | exact Picks.nil _ | apply Picks.cons | exact Pull.here _ _ | apply Pull.there))) ⟨rfl, rfl, rfl⟩


theorem f7_spec (p : Nat) (v : Value) (hs : List En) (o : Nat) (L : List It) (hQ : QR hs o L) (hl : L.length ≤ 1000) (ho : o ≤ 1000000) (d : W64) (id : Int) :
    Spec Try.prog 7 #[(ptr p 0), (u64 d), (it id)] [] [Res.cells p [v, (u64 (BitVec.ofNat 64 o))] 28, Res.row v hs.length 59 3 (enC hs)]
      (fun r Γ' H' => ∃ v' hs', r = it (addE L) ∧ QR hs' (addO o L) (addL ⟨d, id⟩ L) ∧ Γ' = [] ∧ H' = [Res.cells p [v', (u64 (BitVec.ofNat 64 (addO o L)))] 28, Res.row v' hs'.length 59 3 (enC hs')]) := by
  refine Spec.of_args Try.func7 rfl Try.ntmps7 (by simp) fun w => ?_
  have hlen := hQ.len
  refine JC.seq ?_
  refine JC.region ?_
  refine JO.v (Yv.assign rfl) (by decide) ?_
  refine JO.nil ?_
  refine JQ.then_normal ?_
  refine JC.seq ?_
  refine JC.seq ?_
  refine JC.region ?_
  refine JO.v (Yv.move rfl) (by decide) ?_
  refine JO.v (Yv.nilCheck rfl) (by decide) ?_
  refine JO.v (Yv.fieldAddr fa_28_0 rfl) (by decide) ?_
  refine JO.v (Yv.load1 one_26 rfl (by first | exact Kn.own (by repeat (first | exact List.Mem.head _ | refine List.Mem.tail _ ?_)) (by first  | rfl | exact tab_get (by first | omega | (simp; omega)) | exact gm (d := 0) (by first | omega | (simp; omega))) | exact Kn.ro (by repeat (first | exact List.Mem.head _ | refine List.Mem.tail _ ?_)) (by first  | rfl | exact tab_get (by first | omega | (simp; omega)) | exact gm (d := 0) (by first | omega | (simp; omega))) | exact Kn.row (by repeat (first | exact List.Mem.head _ | refine List.Mem.tail _ ?_)) (by first  | rfl | exact tab_get (by first | omega | (simp; omega)) | exact gm (d := 0) (by first | omega | (simp; omega))) | exact Kn.rd (by repeat (first | exact Lend.same _ _ | exact Lend.row _ _ _ _ _ _ (by decide) | apply Lend.there)) (by first  | rfl | exact tab_get (by first | omega | (simp; omega)) | exact gm (d := 0) (by first | omega | (simp; omega))) | exact Kn.rd2 (by repeat (first | exact Lend.same _ _ | exact Lend.row _ _ _ _ _ _ (by decide) | apply Lend.there)) (by first  | rfl | exact tab_get (by first | omega | (simp; omega)) | exact gm (d := 0) (by first | omega | (simp; omega))))) (by decide) ?_
  first | refine JO.v (Yv.len_s Try.underlying26 rfl) (by decide) ?_ | refine JO.v (Yv.lenRd Try.underlying26 rfl (by repeat (first | exact Lend.same _ _ | exact Lend.row _ _ _ _ _ _ (by decide) | apply Lend.there))) (by decide) ?_
  refine JO.v (Yv.as (v' := .bool (decide (100 ≤ L.length))) (Yv.bin rfl rfl BinR.geq_i) (congrArg Value.bool (decide_eq_decide.2 (by omega)))) (by decide) ?_
  refine JO.nil ?_
  refine JQ.then_normal ?_
  refine JC.cond rfl (fun hc1 => ?_) (fun hc1 => ?_)
  · try simp only [decide_eq_true_eq, decide_eq_false_iff_not, Bool.not_eq_true', Bool.not_eq_false', ne_eq, Decidable.not_not, Bool.not_eq_true, Bool.and_eq_true, Bool.or_eq_true, BitVec.reduceToNat] at hc1
    have h100 : 100 ≤ L.length := by omega
    refine JC.seq ?_
    refine JC.region ?_
    refine JO.v (Yv.assign rfl) (by decide) ?_
    refine JO.nil ?_
    refine JQ.then_normal ?_
    refine JC.ret ?_
    refine JQ.then_ret ?_
    exact JQ.done (.inr rfl) (Γ' := []) (H' := [Res.cells p [_, _] 28, Res.row _ _ 59 3 _]) (res1 rfl (RV.tmp rfl)) (Subs.sub (by repeat (first | exact Subs.nil _ | apply Subs.cons | exact List.Mem.head _ | refine List.Mem.tail _ ?_))) (Picks.perm (by repeat (first | exact Picks.nil _ | apply Picks.cons | exact Pull.here _ _ | apply Pull.there))) ⟨_, hs, by rw [addE, if_pos h100], by rw [addO, addL, if_pos h100, if_pos h100]; exact hQ, rfl, by rw [addO, if_pos h100]⟩
  · try simp only [decide_eq_true_eq, decide_eq_false_iff_not, Bool.not_eq_true', Bool.not_eq_false', ne_eq, Decidable.not_not, Bool.not_eq_true, Bool.and_eq_true, Bool.or_eq_true, BitVec.reduceToNat] at hc1
    have h100 : ¬ 100 ≤ L.length := by omega
    refine JC.skip ?_
    refine JQ.then_normal ?_
    refine JC.seq ?_
    refine JC.region ?_
    refine JO.v (Yv.move rfl) (by decide) ?_
    refine JO.callB (f18_spec p v (u64 (BitVec.ofNat 64 o)) hs) body_18 rfl (by repeat (first | exact Picks.nil _ | apply Picks.cons | exact Pull.here _ _ | apply Pull.there)) (by repeat (first | exact Lends.nil _ | apply Lends.cons | exact Lend.same _ _ | exact Lend.row _ _ _ _ _ _ (by decide) | apply Lend.there)) (by rintro _ _ _ ⟨_, _, h, _⟩; exact h) (by decide) ?_
    rintro _ _ ⟨_, ⟨q, rfl, _, rfl⟩, hH⟩
    simp only [List.cons_append, List.nil_append] at hH; subst hH
    refine JO.v (Yv.assign rfl) (by decide) ?_
    refine JO.nil ?_
    refine JQ.then_normal ?_
    refine JC.seq ?_
    refine JC.region ?_
    refine JO.v (Yv.move rfl) (by decide) ?_
    refine JO.v (Yv.iface Try.underlying55 (fun _ h => by cases h) rfl) (by decide) ?_
    refine JO.v (Yv.move rfl) (by decide) ?_
    refine JO.v (Yv.move rfl) (by decide) ?_
    refine JO.v (Yv.build bld_35 rfl rfl) (by decide) ?_
    refine JO.v (Yv.move rfl) (by decide) ?_
    refine JO.v (Yv.nilCheck rfl) (by decide) ?_
    refine JO.v (Yv.fieldAddr fa_28_1 rfl) (by decide) ?_
    refine JO.v (Yv.load1 one_23 rfl (by first | exact Kn.own (by repeat (first | exact List.Mem.head _ | refine List.Mem.tail _ ?_)) (by first  | rfl | exact tab_get (by first | omega | (simp; omega)) | exact gm (d := 0) (by first | omega | (simp; omega))) | exact Kn.ro (by repeat (first | exact List.Mem.head _ | refine List.Mem.tail _ ?_)) (by first  | rfl | exact tab_get (by first | omega | (simp; omega)) | exact gm (d := 0) (by first | omega | (simp; omega))) | exact Kn.row (by repeat (first | exact List.Mem.head _ | refine List.Mem.tail _ ?_)) (by first  | rfl | exact tab_get (by first | omega | (simp; omega)) | exact gm (d := 0) (by first | omega | (simp; omega))) | exact Kn.rd (by repeat (first | exact Lend.same _ _ | exact Lend.row _ _ _ _ _ _ (by decide) | apply Lend.there)) (by first  | rfl | exact tab_get (by first | omega | (simp; omega)) | exact gm (d := 0) (by first | omega | (simp; omega))) | exact Kn.rd2 (by repeat (first | exact Lend.same _ _ | exact Lend.row _ _ _ _ _ _ (by decide) | apply Lend.there)) (by first  | rfl | exact tab_get (by first | omega | (simp; omega)) | exact gm (d := 0) (by first | omega | (simp; omega))))) (by decide) ?_
    refine JO.v (Yv.as (v' := .agg (⟨d, id, BitVec.ofNat 64 o⟩ : En).cells.toArray) (Yv.build (cs := [u64 d, it id, u64 (BitVec.ofNat 64 o)]) bld_59 rfl (by kernel_rfl)) rfl) (by decide) ?_
    refine JO.v (Yv.iface Try.underlying59 (fun _ h => by cases h) rfl) (by decide) ?_
    refine JO.callB (f19_spec q v hs ⟨d, id, BitVec.ofNat 64 o⟩ hQ.heap (by omega)) body_19 rfl (by repeat (first | exact Picks.nil _ | apply Picks.cons | exact Pull.here _ _ | apply Pull.there)) (by repeat (first | exact Lends.nil _ | apply Lends.cons | exact Lend.same _ _ | exact Lend.row _ _ _ _ _ _ (by decide) | apply Lend.there)) (by rintro _ _ _ ⟨_, _, _, _, h, _⟩; exact h) (by decide) ?_
    rintro _ _ ⟨_, ⟨v2, ys, hp, hh, _, rfl⟩, hH⟩
    simp only [List.cons_append, List.nil_append] at hH; subst hH
    have hQ2 := hQ.push (x := ⟨d, id, BitVec.ofNat 64 o⟩) (by dsimp only; rw [BitVec.toNat_ofNat]; omega) hp hh
    refine JO.nil ?_
    refine JQ.then_normal ?_
    refine JC.seq ?_
    refine JC.region ?_
    refine JO.v (Yv.move rfl) (by decide) ?_
    refine JO.v (Yv.move rfl) (by decide) ?_
    refine JO.v (Yv.nilCheck rfl) (by decide) ?_
    refine JO.v (Yv.fieldAddr fa_62_0 rfl) (by decide) ?_
    refine JO.v (Yv.load1 one_26 rfl (by first | exact Kn.own (by repeat (first | exact List.Mem.head _ | refine List.Mem.tail _ ?_)) (by first  | rfl | exact tab_get (by first | omega | (simp; omega)) | exact gm (d := 0) (by first | omega | (simp; omega))) | exact Kn.ro (by repeat (first | exact List.Mem.head _ | refine List.Mem.tail _ ?_)) (by first  | rfl | exact tab_get (by first | omega | (simp; omega)) | exact gm (d := 0) (by first | omega | (simp; omega))) | exact Kn.row (by repeat (first | exact List.Mem.head _ | refine List.Mem.tail _ ?_)) (by first  | rfl | exact tab_get (by first | omega | (simp; omega)) | exact gm (d := 0) (by first | omega | (simp; omega))) | exact Kn.rd (by repeat (first | exact Lend.same _ _ | exact Lend.row _ _ _ _ _ _ (by decide) | apply Lend.there)) (by first  | rfl | exact tab_get (by first | omega | (simp; omega)) | exact gm (d := 0) (by first | omega | (simp; omega))) | exact Kn.rd2 (by repeat (first | exact Lend.same _ _ | exact Lend.row _ _ _ _ _ _ (by decide) | apply Lend.there)) (by first  | rfl | exact tab_get (by first | omega | (simp; omega)) | exact gm (d := 0) (by first | omega | (simp; omega))))) (by decide) ?_
    refine JO.v (Yv.nilCheck rfl) (by decide) ?_
    refine JO.v (Yv.fieldAddr fa_28_0 rfl) (by decide) ?_
    first | refine JO.store1 sz_26 rfl rfl rfl (by repeat (first | exact Upd.here _ _ _ | apply Upd.there)) (by first | exact ltb rfl | (simp; done) | (simp; omega) | omega | (simp [*]; omega)) ?_ | refine JO.store1s sz_26 rfl rfl (by repeat (first | exact Lend.same _ _ | exact Lend.row _ _ _ _ _ _ (by decide) | apply Lend.there)) (by repeat (first | exact Upd.here _ _ _ | apply Upd.there)) (by first | exact ltb rfl | (simp; done) | (simp; omega) | omega | (simp [*]; omega)) ?_ | refine JO.storeRow1 sz_26 rfl rfl rfl (by repeat (first | exact Upd.here _ _ _ | apply Upd.there)) (by first | exact ltb rfl | (simp; done) | (simp; omega) | omega | (simp [*]; omega)) (by first | rfl | (simp; done) | omega | (simp; omega)) ?_
    refine JO.nil ?_
    refine JQ.then_normal ?_
    refine JC.seq ?_
    refine JC.region ?_
    refine JO.v (Yv.move rfl) (by decide) ?_
    refine JO.v (Yv.nilCheck rfl) (by decide) ?_
    refine JO.v (Yv.fieldAddr fa_28_1 rfl) (by decide) ?_
    refine JO.v (Yv.load1 one_23 rfl (by first | exact Kn.own (by repeat (first | exact List.Mem.head _ | refine List.Mem.tail _ ?_)) (by first  | rfl | exact tab_get (by first | omega | (simp; omega)) | exact gm (d := 0) (by first | omega | (simp; omega))) | exact Kn.ro (by repeat (first | exact List.Mem.head _ | refine List.Mem.tail _ ?_)) (by first  | rfl | exact tab_get (by first | omega | (simp; omega)) | exact gm (d := 0) (by first | omega | (simp; omega))) | exact Kn.row (by repeat (first | exact List.Mem.head _ | refine List.Mem.tail _ ?_)) (by first  | rfl | exact tab_get (by first | omega | (simp; omega)) | exact gm (d := 0) (by first | omega | (simp; omega))) | exact Kn.rd (by repeat (first | exact Lend.same _ _ | exact Lend.row _ _ _ _ _ _ (by decide) | apply Lend.there)) (by first  | rfl | exact tab_get (by first | omega | (simp; omega)) | exact gm (d := 0) (by first | omega | (simp; omega))) | exact Kn.rd2 (by repeat (first | exact Lend.same _ _ | exact Lend.row _ _ _ _ _ _ (by decide) | apply Lend.there)) (by first  | rfl | exact tab_get (by first | omega | (simp; omega)) | exact gm (d := 0) (by first | omega | (simp; omega))))) (by decide) ?_
    refine JO.v (Yv.as (v' := (u64 (BitVec.ofNat 64 (o + 1)))) (Yv.bin rfl rfl (BinR.add_u64 (b := 1#64))) (congrArg u64 (BitVec.ofNat_add o 1).symm)) (by decide) ?_
    refine JO.v (Yv.nilCheck rfl) (by decide) ?_
    refine JO.v (Yv.fieldAddr fa_28_1 rfl) (by decide) ?_
    first | refine JO.store1 sz_23 rfl rfl rfl (by repeat (first | exact Upd.here _ _ _ | apply Upd.there)) (by first | exact ltb rfl | (simp; done) | (simp; omega) | omega | (simp [*]; omega)) ?_ | refine JO.storeRow1 sz_23 rfl rfl rfl (by repeat (first | exact Upd.here _ _ _ | apply Upd.there)) (by first | exact ltb rfl | (simp; done) | (simp; omega) | omega | (simp [*]; omega)) (by first | rfl | (simp; done) | omega | (simp; omega)) ?_
    refine JO.nil ?_
    refine JQ.then_normal ?_
    refine JC.seq ?_
    refine JC.region ?_
    refine JO.v (Yv.assign rfl) (by decide) ?_
    refine JO.nil ?_
    refine JQ.then_normal ?_
    refine JC.ret ?_
    exact JQ.done (.inr rfl) (Γ' := []) (H' := [Res.cells p [_, _] 28, Res.row _ _ 59 3 _]) (res1 rfl (RV.tmp rfl)) (Subs.sub (by repeat (first | exact Subs.nil _ | apply Subs.cons | exact List.Mem.head _ | refine List.Mem.tail _ ?_))) (Picks.perm (by repeat (first | exact Picks.nil _ | apply Picks.cons | exact Pull.here _ _ | apply Pull.there))) ⟨_, ys, by rw [addE, if_neg h100], by rw [addO, addL, if_neg h100, if_neg h100]; exact hQ2, rfl, by rw [addO, if_neg h100]⟩


theorem f11_spec (p : Nat) (v ov : Value) (hs : List En) (o : Nat) (L : List It) (hQ : QR hs o L) (hl : L.length ≤ 1000) :
    Spec Try.prog 11 #[(ptr p 0)] [] [Res.cells p [v, ov] 28, Res.row v hs.length 59 3 (enC hs)]
      (fun r Γ' H' => ∃ v' hs', r = .tuple #[.agg (L.getD 0 itD).cells.toArray, it (nxE L)] ∧ QR hs' (o) (L.tail) ∧ Γ' = [] ∧ H' = [Res.cells p [v', ov] 28, Res.row v' hs'.length 59 3 (enC hs')]) := by
  refine Spec.of_args Try.func11 rfl Try.ntmps11 (by simp) fun w => ?_
  have hlen := hQ.len
  refine JC.seq ?_
  refine JC.region ?_
  refine JO.alloc _ zero_35 rfl (by decide) fun b2 => ?_
  refine JO.v (Yv.assign rfl) (by decide) ?_
  refine JO.nil ?_
  refine JQ.then_normal ?_
  refine JC.seq ?_
  refine JC.seq ?_
  refine JC.region ?_
  refine JO.v (Yv.move rfl) (by decide) ?_
  refine JO.v (Yv.nilCheck rfl) (by decide) ?_
  refine JO.v (Yv.fieldAddr fa_28_0 rfl) (by decide) ?_
  refine JO.v (Yv.load1 one_26 rfl (by first | exact Kn.own (by repeat (first | exact List.Mem.head _ | refine List.Mem.tail _ ?_)) (by first  | rfl | exact tab_get (by first | omega | (simp; omega)) | exact gm (d := 0) (by first | omega | (simp; omega))) | exact Kn.ro (by repeat (first | exact List.Mem.head _ | refine List.Mem.tail _ ?_)) (by first  | rfl | exact tab_get (by first | omega | (simp; omega)) | exact gm (d := 0) (by first | omega | (simp; omega))) | exact Kn.row (by repeat (first | exact List.Mem.head _ | refine List.Mem.tail _ ?_)) (by first  | rfl | exact tab_get (by first | omega | (simp; omega)) | exact gm (d := 0) (by first | omega | (simp; omega))) | exact Kn.rd (by repeat (first | exact Lend.same _ _ | exact Lend.row _ _ _ _ _ _ (by decide) | apply Lend.there)) (by first  | rfl | exact tab_get (by first | omega | (simp; omega)) | exact gm (d := 0) (by first | omega | (simp; omega))) | exact Kn.rd2 (by repeat (first | exact Lend.same _ _ | exact Lend.row _ _ _ _ _ _ (by decide) | apply Lend.there)) (by first  | rfl | exact tab_get (by first | omega | (simp; omega)) | exact gm (d := 0) (by first | omega | (simp; omega))))) (by decide) ?_
  first | refine JO.v (Yv.len_s Try.underlying26 rfl) (by decide) ?_ | refine JO.v (Yv.lenRd Try.underlying26 rfl (by repeat (first | exact Lend.same _ _ | exact Lend.row _ _ _ _ _ _ (by decide) | apply Lend.there))) (by decide) ?_
  refine JO.v (Yv.as (v' := .bool (decide (L.length = 0))) (Yv.bin rfl rfl BinR.eql_i) (congrArg Value.bool (decide_eq_decide.2 (by omega)))) (by decide) ?_
  refine JO.nil ?_
  refine JQ.then_normal ?_
  refine JC.cond rfl (fun hc1 => ?_) (fun hc1 => ?_)
  · try simp only [decide_eq_true_eq, decide_eq_false_iff_not, Bool.not_eq_true', Bool.not_eq_false', ne_eq, Decidable.not_not, Bool.not_eq_true, Bool.and_eq_true, Bool.or_eq_true, BitVec.reduceToNat] at hc1
    obtain rfl : L = [] := List.eq_nil_of_length_eq_zero (by omega)
    refine JC.seq ?_
    refine JC.region ?_
    refine JO.v (Yv.as (v' := .agg itD.cells.toArray) (Yv.build bld_35 rfl rfl) rfl) (by decide) ?_
    refine JO.storeAll sz_35 rfl rfl rfl rfl (it_one1 _) (by repeat (first | exact Upd.here _ _ _ | apply Upd.there)) rfl ?_
    refine JO.v (Yv.as (v' := it (nxE [])) (Yv.assign rfl) rfl) (by decide) ?_
    refine JO.nil ?_
    refine JQ.then_normal ?_
    refine JC.ret ?_
    refine JQ.then_ret ?_
    exact JQ.done (.inr rfl) (Γ' := []) (H' := [Res.cells p [_, _] 28, Res.row _ _ 59 3 _]) (res2 rfl (RV.cell agg_35 (by repeat (first | exact List.Mem.head _ | refine List.Mem.tail _ ?_)) rfl (by first | rfl | (simp; done) | (simp; omega))) (RV.tmp rfl)) (Subs.sub (by repeat (first | exact Subs.nil _ | apply Subs.cons | exact List.Mem.head _ | refine List.Mem.tail _ ?_))) (Picks.perm (by repeat (first | exact Picks.nil _ | apply Picks.cons | exact Pull.here _ _ | apply Pull.there))) ⟨_, hs, rfl, hQ, rfl, rfl⟩
  · try simp only [decide_eq_true_eq, decide_eq_false_iff_not, Bool.not_eq_true', Bool.not_eq_false', ne_eq, Decidable.not_not, Bool.not_eq_true, Bool.and_eq_true, Bool.or_eq_true, BitVec.reduceToNat] at hc1
    obtain ⟨n, hn⟩ : ∃ n, hs.length = n + 1 := ⟨hs.length - 1, by omega⟩
    refine JC.skip ?_
    refine JQ.then_normal ?_
    refine JC.seq ?_
    refine JC.region ?_
    refine JO.v (Yv.move rfl) (by decide) ?_
    refine JO.callB (f18_spec p v ov hs) body_18 rfl (by repeat (first | exact Picks.nil _ | apply Picks.cons | exact Pull.here _ _ | apply Pull.there)) (by repeat (first | exact Lends.nil _ | apply Lends.cons | exact Lend.same _ _ | exact Lend.row _ _ _ _ _ _ (by decide) | apply Lend.there)) (by rintro _ _ _ ⟨_, _, h, _⟩; exact h) (by decide) ?_
    rintro _ _ ⟨_, ⟨q, rfl, _, rfl⟩, hH⟩
    simp only [List.cons_append, List.nil_append] at hH; subst hH
    refine JO.v (Yv.assign rfl) (by decide) ?_
    refine JO.nil ?_
    refine JQ.then_normal ?_
    refine JC.seq ?_
    refine JC.region ?_
    refine JO.v (Yv.move rfl) (by decide) ?_
    refine JO.v (Yv.iface Try.underlying55 (fun _ h => by cases h) rfl) (by decide) ?_
    refine JO.callB (f20_spec q v hs n hn hQ.heap (by omega)) body_20 rfl (by repeat (first | exact Picks.nil _ | apply Picks.cons | exact Pull.here _ _ | apply Pull.there)) (by repeat (first | exact Lends.nil _ | apply Lends.cons | exact Lend.same _ _ | exact Lend.row _ _ _ _ _ _ (by decide) | apply Lend.there)) (by rintro _ _ _ ⟨_, _, _, _, _, _, _, h, _⟩; exact h) (by decide) ?_
    rintro _ _ ⟨_, ⟨v2, ys, y, hpy, hh2, hmin, rfl, _, rfl⟩, hH⟩
    simp only [List.cons_append, List.nil_append] at hH; subst hH
    obtain ⟨L', rfl, hQ'⟩ := hQ.pop hpy hh2 hmin
    refine JO.v (Yv.assert Try.underlying59 (fun _ h => by cases h) rfl) (by decide) ?_
    refine JO.alloc _ zero_59 rfl (by decide) fun b5 => ?_
    refine JO.storeAll sz_59 rfl rfl rfl rfl (en_one1 y) (by repeat (first | exact Upd.here _ _ _ | apply Upd.there)) rfl ?_
    refine JO.nil ?_
    refine JQ.then_normal ?_
    refine JC.seq ?_
    refine JC.region ?_
    refine JO.v (Yv.move rfl) (by decide) ?_
    refine JO.v (Yv.move rfl) (by decide) ?_
    refine JO.v (Yv.nilCheck rfl) (by decide) ?_
    refine JO.v (Yv.fieldAddr fa_62_0 rfl) (by decide) ?_
    refine JO.v (Yv.load1 one_26 rfl (by first | exact Kn.own (by repeat (first | exact List.Mem.head _ | refine List.Mem.tail _ ?_)) (by first  | rfl | exact tab_get (by first | omega | (simp; omega)) | exact gm (d := 0) (by first | omega | (simp; omega))) | exact Kn.ro (by repeat (first | exact List.Mem.head _ | refine List.Mem.tail _ ?_)) (by first  | rfl | exact tab_get (by first | omega | (simp; omega)) | exact gm (d := 0) (by first | omega | (simp; omega))) | exact Kn.row (by repeat (first | exact List.Mem.head _ | refine List.Mem.tail _ ?_)) (by first  | rfl | exact tab_get (by first | omega | (simp; omega)) | exact gm (d := 0) (by first | omega | (simp; omega))) | exact Kn.rd (by repeat (first | exact Lend.same _ _ | exact Lend.row _ _ _ _ _ _ (by decide) | apply Lend.there)) (by first  | rfl | exact tab_get (by first | omega | (simp; omega)) | exact gm (d := 0) (by first | omega | (simp; omega))) | exact Kn.rd2 (by repeat (first | exact Lend.same _ _ | exact Lend.row _ _ _ _ _ _ (by decide) | apply Lend.there)) (by first  | rfl | exact tab_get (by first | omega | (simp; omega)) | exact gm (d := 0) (by first | omega | (simp; omega))))) (by decide) ?_
    refine JO.v (Yv.nilCheck rfl) (by decide) ?_
    refine JO.v (Yv.fieldAddr fa_28_0 rfl) (by decide) ?_
    first | refine JO.store1 sz_26 rfl rfl rfl (by repeat (first | exact Upd.here _ _ _ | apply Upd.there)) (by first | exact ltb rfl | (simp; done) | (simp; omega) | omega | (simp [*]; omega)) ?_ | refine JO.store1s sz_26 rfl rfl (by repeat (first | exact Lend.same _ _ | exact Lend.row _ _ _ _ _ _ (by decide) | apply Lend.there)) (by repeat (first | exact Upd.here _ _ _ | apply Upd.there)) (by first | exact ltb rfl | (simp; done) | (simp; omega) | omega | (simp [*]; omega)) ?_ | refine JO.storeRow1 sz_26 rfl rfl rfl (by repeat (first | exact Upd.here _ _ _ | apply Upd.there)) (by first | exact ltb rfl | (simp; done) | (simp; omega) | omega | (simp [*]; omega)) (by first | rfl | (simp; done) | omega | (simp; omega)) ?_
    refine JO.nil ?_
    refine JQ.then_normal ?_
    refine JC.seq ?_
    refine JC.region ?_
    refine JO.v (Yv.fieldAddr fa_59_0 rfl) (by decide) ?_
    first | refine JO.v (Yv.as (v' := .agg y.item.cells.toArray) (Yv.loadOwn agg_35 (by repeat (first | exact List.Mem.head _ | refine List.Mem.tail _ ?_)) rfl (by rw [En.cells_len]; decide)) rfl) (by decide) ?_ | refine JO.v (Yv.as (v' := .agg y.item.cells.toArray) (Yv.loadOwnAt agg_35 (by repeat (first | exact List.Mem.head _ | refine List.Mem.tail _ ?_)) rfl (by rw [En.cells_len]; decide)) rfl) (by decide) ?_ | refine JO.v (Yv.as (v' := .agg y.item.cells.toArray) (Yv.loadRow agg_35 (by repeat (first | exact List.Mem.head _ | refine List.Mem.tail _ ?_)) rfl (by rw [En.cells_len]; decide)) rfl) (by decide) ?_ | refine JO.v (Yv.as (v' := .agg y.item.cells.toArray) (Yv.loadRd agg_35 (by repeat (first | exact Lend.same _ _ | exact Lend.row _ _ _ _ _ _ (by decide) | apply Lend.there)) rfl (by rw [En.cells_len]; decide)) rfl) (by decide) ?_ | refine JO.v (Yv.as (v' := .agg y.item.cells.toArray) (Yv.loadRo agg_35 (by repeat (first | exact List.Mem.head _ | refine List.Mem.tail _ ?_)) rfl (by rw [En.cells_len]; decide)) rfl) (by decide) ?_
    refine JO.storeAll sz_35 rfl rfl rfl rfl (it_one1 _) (by repeat (first | exact Upd.here _ _ _ | apply Upd.there)) rfl ?_
    refine JO.v (Yv.as (v' := it (nxE (y.item :: L'))) (Yv.assign rfl) rfl) (by decide) ?_
    refine JO.nil ?_
    refine JQ.then_normal ?_
    refine JC.ret ?_
    exact JQ.done (.inr rfl) (Γ' := []) (H' := [Res.cells p [_, _] 28, Res.row _ _ 59 3 _]) (res2 rfl (RV.cell agg_35 (by repeat (first | exact List.Mem.head _ | refine List.Mem.tail _ ?_)) rfl (by first | rfl | (simp; done) | (simp; omega))) (RV.tmp rfl)) (Subs.sub (by repeat (first | exact Subs.nil _ | apply Subs.cons | exact List.Mem.head _ | refine List.Mem.tail _ ?_))) (Picks.perm (by repeat (first | exact Picks.nil _ | apply Picks.cons | exact Pull.here _ _ | apply Pull.there))) ⟨_, ys, rfl, hQ', rfl, rfl⟩


theorem f8_spec (p : Nat) (v ov : Value) (hs : List En) (o : Nat) (L : List It) (hQ : QR hs o L) (hl : L.length ≤ 1000) (now : W64) :
    Spec Try.prog 8 #[(ptr p 0), (u64 now)] [] [Res.cells p [v, ov] 28, Res.row v hs.length 59 3 (enC hs)]
      (fun r Γ' H' => ∃ v' hs', QR hs' o (L.dropWhile (dueP now)) ∧ Γ' = [] ∧ H' = [Res.cells p [v', ov] 28, Res.row v' hs'.length 59 3 (enC hs'), Res.row r (L.takeWhile (dueP now)).length 35 2 (itC (L.takeWhile (dueP now)))]) := by
  refine Spec.of_args Try.func8 rfl Try.ntmps8 (by simp) fun w => ?_
  refine JC.seq ?_
  refine JC.region ?_
  refine JO.v (Yv.assign rfl) (by decide) ?_
  refine JO.nil ?_
  refine JQ.then_normal ?_
  refine JC.seq ?_
  refine JC.region ?_
  refine JO.nilRow 35 2 ?_
  refine JO.v (Yv.assign rfl) (by decide) ?_
  refine JO.nil ?_
  refine JQ.then_normal ?_
  refine JC.seq ?_
  refine JC.block ?_
  refine JC.loop (ι := List It × List It × List En × Value × Value) (fun x => QR x.2.2.1 o x.2.1 ∧ L.takeWhile (dueP now) = x.1 ++ x.2.1.takeWhile (dueP now) ∧ L.dropWhile (dueP now) = x.2.1.dropWhile (dueP now) ∧ x.2.1.length ≤ 1000 ∧ x.1.length + x.2.1.length ≤ 1000) (fun x => [(0, ptr p 0), (1, u64 now), (5, x.2.2.2.2)]) (fun x => []) (fun x => [Res.cells p [x.2.2.2.1, ov] 28, Res.row x.2.2.2.1 x.2.2.1.length 59 3 (enC x.2.2.1), Res.row x.2.2.2.2 (x.1).length 35 2 (itC (x.1))]) (fun x => x.2.1.length) ([], L, hs, v, .slice none 0 0) (by repeat (first | exact trivial | refine ⟨by first | rfl | (simp; done), ?_⟩)) (Subs.sub (by repeat (first | exact Subs.nil _ | apply Subs.cons | exact List.Mem.head _ | refine List.Mem.tail _ ?_))) (Picks.perm (by repeat (first | exact Picks.nil _ | apply Picks.cons | exact Pull.here _ _ | apply Pull.there))) ?_ (fun x hx => ?_)
  · exact ⟨hQ, rfl, rfl, hl, by dsimp only [List.length_nil]; omega⟩
  obtain ⟨out, R, hs, v, vo⟩ := x
  obtain ⟨hQ, hT, hD, hl, hol⟩ := hx
  dsimp only at hQ hT hD hl hol ⊢
  have hlen := hQ.len
  refine JC.seq ?_
  refine JC.seq ?_
  refine JC.region ?_
  refine JO.v (Yv.move rfl) (by decide) ?_
  refine JO.v (Yv.nilCheck rfl) (by decide) ?_
  refine JO.v (Yv.fieldAddr fa_28_0 rfl) (by decide) ?_
  refine JO.v (Yv.load1 one_26 rfl (by first | exact Kn.own (by repeat (first | exact List.Mem.head _ | refine List.Mem.tail _ ?_)) (by first | exact en_due (k := 0) (by omega) | rfl | exact tab_get (by first | omega | (simp; omega)) | exact gm (d := 0) (by first | omega | (simp; omega))) | exact Kn.ro (by repeat (first | exact List.Mem.head _ | refine List.Mem.tail _ ?_)) (by first | exact en_due (k := 0) (by omega) | rfl | exact tab_get (by first | omega | (simp; omega)) | exact gm (d := 0) (by first | omega | (simp; omega))) | exact Kn.row (by repeat (first | exact List.Mem.head _ | refine List.Mem.tail _ ?_)) (by first | exact en_due (k := 0) (by omega) | rfl | exact tab_get (by first | omega | (simp; omega)) | exact gm (d := 0) (by first | omega | (simp; omega))) | exact Kn.rd (by repeat (first | exact Lend.same _ _ | exact Lend.row _ _ _ _ _ _ (by decide) | apply Lend.there)) (by first | exact en_due (k := 0) (by omega) | rfl | exact tab_get (by first | omega | (simp; omega)) | exact gm (d := 0) (by first | omega | (simp; omega))) | exact Kn.rd2 (by repeat (first | exact Lend.same _ _ | exact Lend.row _ _ _ _ _ _ (by decide) | apply Lend.there)) (by first | exact en_due (k := 0) (by omega) | rfl | exact tab_get (by first | omega | (simp; omega)) | exact gm (d := 0) (by first | omega | (simp; omega))))) (by decide) ?_
  first | refine JO.v (Yv.len_s Try.underlying26 rfl) (by decide) ?_ | refine JO.v (Yv.lenRd Try.underlying26 rfl (by repeat (first | exact Lend.same _ _ | exact Lend.row _ _ _ _ _ _ (by decide) | apply Lend.there))) (by decide) ?_
  refine JO.v (Yv.as (v' := .bool (decide (0 < R.length))) (Yv.bin rfl rfl BinR.gtr_i) (congrArg Value.bool (decide_eq_decide.2 (by omega)))) (by decide) ?_
  refine JO.v (Yv.move rfl) (by decide) ?_
  refine JO.join 11 25 (.bool (decide (0 < R.length ∧ (R.getD 0 itD).due.toNat ≤ now.toNat))) ?_ ?_
  · skip
    refine JO.gsplit (g := 13) rfl (fun hg10 => ?_) (fun hg10 => ?_)
    · have hg10' := hg10
      try simp only [decide_eq_true_eq, decide_eq_false_iff_not, Bool.not_eq_true', Bool.not_eq_false', ne_eq, Decidable.not_not, Bool.not_eq_true, Bool.and_eq_true, Bool.or_eq_true, BitVec.reduceToNat] at hg10'
      refine JO.gt (g := 14) rfl rfl hg10 ?_
      refine JO.v (Yv.move rfl) (by decide) ?_
      refine JO.gt (g := 14) rfl rfl hg10 ?_
      refine JO.v (Yv.nilCheck rfl) (by decide) ?_
      refine JO.gt (g := 14) rfl rfl hg10 ?_
      refine JO.v (Yv.fieldAddr fa_28_0 rfl) (by decide) ?_
      refine JO.gt (g := 14) rfl rfl hg10 ?_
      refine JO.v (Yv.load1 one_26 rfl (by first | exact Kn.own (by repeat (first | exact List.Mem.head _ | refine List.Mem.tail _ ?_)) (by first | exact en_due (k := 0) (by omega) | rfl | exact tab_get (by first | omega | (simp; omega)) | exact gm (d := 0) (by first | omega | (simp; omega))) | exact Kn.ro (by repeat (first | exact List.Mem.head _ | refine List.Mem.tail _ ?_)) (by first | exact en_due (k := 0) (by omega) | rfl | exact tab_get (by first | omega | (simp; omega)) | exact gm (d := 0) (by first | omega | (simp; omega))) | exact Kn.row (by repeat (first | exact List.Mem.head _ | refine List.Mem.tail _ ?_)) (by first | exact en_due (k := 0) (by omega) | rfl | exact tab_get (by first | omega | (simp; omega)) | exact gm (d := 0) (by first | omega | (simp; omega))) | exact Kn.rd (by repeat (first | exact Lend.same _ _ | exact Lend.row _ _ _ _ _ _ (by decide) | apply Lend.there)) (by first | exact en_due (k := 0) (by omega) | rfl | exact tab_get (by first | omega | (simp; omega)) | exact gm (d := 0) (by first | omega | (simp; omega))) | exact Kn.rd2 (by repeat (first | exact Lend.same _ _ | exact Lend.row _ _ _ _ _ _ (by decide) | apply Lend.there)) (by first | exact en_due (k := 0) (by omega) | rfl | exact tab_get (by first | omega | (simp; omega)) | exact gm (d := 0) (by first | omega | (simp; omega))))) (by decide) ?_
      refine JO.gt (g := 14) rfl rfl hg10 ?_
      first | refine JO.v (Yv.indexRow (j := 0) Try.underlying26 sz_59 rfl rfl (by repeat (first | exact List.Mem.head _ | refine List.Mem.tail _ ?_)) (by first | exact ltb rfl | (simp; done) | (simp; omega) | omega | (simp [*]; omega))) (by decide) ?_ | refine JO.v (Yv.indexRd (j := 0) Try.underlying26 sz_59 rfl rfl (by repeat (first | exact Lend.same _ _ | exact Lend.row _ _ _ _ _ _ (by decide) | apply Lend.there)) (by decide) (by first | exact ltb rfl | (simp; done) | (simp; omega) | omega | (simp [*]; omega))) (by decide) ?_
      refine JO.gt (g := 14) rfl rfl hg10 ?_
      refine JO.v (Yv.fieldAddr fa_59_0 rfl) (by decide) ?_
      refine JO.gt (g := 14) rfl rfl hg10 ?_
      refine JO.v (Yv.fieldAddr fa_35_0 rfl) (by decide) ?_
      refine JO.gt (g := 14) rfl rfl hg10 ?_
      refine JO.v (Yv.as (v' := u64 (R.getD 0 itD).due) (Yv.load1 one_23 rfl (by first | exact Kn.own (by repeat (first | exact List.Mem.head _ | refine List.Mem.tail _ ?_)) (by first | exact en_due (k := 0) (by omega) | rfl | exact tab_get (by first | omega | (simp; omega)) | exact gm (d := 0) (by first | omega | (simp; omega))) | exact Kn.ro (by repeat (first | exact List.Mem.head _ | refine List.Mem.tail _ ?_)) (by first | exact en_due (k := 0) (by omega) | rfl | exact tab_get (by first | omega | (simp; omega)) | exact gm (d := 0) (by first | omega | (simp; omega))) | exact Kn.row (by repeat (first | exact List.Mem.head _ | refine List.Mem.tail _ ?_)) (by first | exact en_due (k := 0) (by omega) | rfl | exact tab_get (by first | omega | (simp; omega)) | exact gm (d := 0) (by first | omega | (simp; omega))) | exact Kn.rd (by repeat (first | exact Lend.same _ _ | exact Lend.row _ _ _ _ _ _ (by decide) | apply Lend.there)) (by first | exact en_due (k := 0) (by omega) | rfl | exact tab_get (by first | omega | (simp; omega)) | exact gm (d := 0) (by first | omega | (simp; omega))) | exact Kn.rd2 (by repeat (first | exact Lend.same _ _ | exact Lend.row _ _ _ _ _ _ (by decide) | apply Lend.there)) (by first | exact en_due (k := 0) (by omega) | rfl | exact tab_get (by first | omega | (simp; omega)) | exact gm (d := 0) (by first | omega | (simp; omega))))) (congrArg u64 (hQ.first (by omega)))) (by decide) ?_
      refine JO.gt (g := 14) rfl rfl hg10 ?_
      refine JO.v (Yv.move rfl) (by decide) ?_
      refine JO.gt (g := 14) rfl rfl hg10 ?_
      refine JO.v (Yv.bin rfl rfl (BinR.leq_u64)) (by decide) ?_
      refine JO.v (Yv.pick1 rfl hg10 rfl) (by decide) ?_
      refine JO.nil ?_
      refine JQ.head () (by first | (refine ⟨by first | rfl | (simp [*]; done) | (show some _ = some _; simp [*]; done), ?_⟩; repeat (first | exact trivial | refine ⟨rfl, ?_⟩))) (Subs.sub (by repeat (first | exact Subs.nil _ | apply Subs.cons | exact List.Mem.head _ | refine List.Mem.tail _ ?_))) (Picks.perm (by repeat (first | exact Picks.nil _ | apply Picks.cons | exact Pull.here _ _ | apply Pull.there))) ?_
      trivial
    · have hg10' := hg10
      try simp only [decide_eq_true_eq, decide_eq_false_iff_not, Bool.not_eq_true', Bool.not_eq_false', ne_eq, Decidable.not_not, Bool.not_eq_true, Bool.and_eq_true, Bool.or_eq_true, BitVec.reduceToNat] at hg10'
      refine JO.gf (g := 14) rfl rfl hg10 (by decide) ?_
      refine JO.gf (g := 14) rfl rfl hg10 (by decide) ?_
      refine JO.gf (g := 14) rfl rfl hg10 (by decide) ?_
      refine JO.gf (g := 14) rfl rfl hg10 (by decide) ?_
      refine JO.gf (g := 14) rfl rfl hg10 (by decide) ?_
      refine JO.gf (g := 14) rfl rfl hg10 (by decide) ?_
      refine JO.gf (g := 14) rfl rfl hg10 (by decide) ?_
      refine JO.gf (g := 14) rfl rfl hg10 (by decide) ?_
      refine JO.gf (g := 14) rfl rfl hg10 (by decide) ?_
      refine JO.gf (g := 14) rfl rfl hg10 (by decide) ?_
      refine JO.v (Yv.pick0 rfl hg10 rfl) (by decide) ?_
      refine JO.nil ?_
      refine JQ.head () (by first | (refine ⟨by first | rfl | (simp [*]; done) | (show some _ = some _; simp [*]; done), ?_⟩; repeat (first | exact trivial | refine ⟨rfl, ?_⟩))) (Subs.sub (by repeat (first | exact Subs.nil _ | apply Subs.cons | exact List.Mem.head _ | refine List.Mem.tail _ ?_))) (Picks.perm (by repeat (first | exact Picks.nil _ | apply Picks.cons | exact Pull.here _ _ | apply Pull.there))) ?_
      trivial
  · skip
    refine JO.nil ?_
    refine JQ.then_normal ?_
    refine JC.cond rfl (fun hc1 => ?_) (fun hc1 => ?_)
    · try simp only [decide_eq_true_eq, decide_eq_false_iff_not, Bool.not_eq_true', Bool.not_eq_false', ne_eq, Decidable.not_not, Bool.not_eq_true, Bool.and_eq_true, Bool.or_eq_true, BitVec.reduceToNat] at hc1
      obtain ⟨x, R', rfl⟩ : ∃ x R', R = x :: R' := by
        cases R with
        | nil => exact absurd hc1.1 (by simp)
        | cons x R' => exact ⟨x, R', rfl⟩
      refine JC.skip ?_
      refine JQ.then_normal ?_
      refine JC.block ?_
      refine JC.seq ?_
      refine JC.region ?_
      refine JO.v (Yv.move rfl) (by decide) ?_
      refine JO.callB (f11_spec p v ov hs o (x :: R') hQ hl) body_11 rfl (by repeat (first | exact Picks.nil _ | apply Picks.cons | exact Pull.here _ _ | apply Pull.there)) (by repeat (first | exact Lends.nil _ | apply Lends.cons | exact Lend.same _ _ | exact Lend.row _ _ _ _ _ _ (by decide) | apply Lend.there)) (by rintro _ _ _ ⟨_, _, _, _, h, _⟩; exact h) (by decide) ?_
      rintro _ _ ⟨_, ⟨v2, hs2, rfl, hQ2, _, rfl⟩, hH⟩
      simp only [List.cons_append, List.nil_append] at hH; subst hH
      refine JO.v (Yv.move rfl) (by decide) ?_
      refine JO.v (Yv.as (v' := .agg x.cells.toArray) (Yv.extract rfl rfl) rfl) (by decide) ?_
      refine JO.v (Yv.as (v' := it (nxE (x :: R'))) (Yv.extract rfl rfl) rfl) (by decide) ?_
      refine JO.alloc _ zero_35 rfl (by decide) fun b6 => ?_
      refine JO.storeAll sz_35 rfl rfl rfl rfl (it_one1 x) (by repeat (first | exact Upd.here _ _ _ | apply Upd.there)) rfl ?_
      refine JO.v (Yv.assign rfl) (by decide) ?_
      refine JO.nil ?_
      refine JQ.then_normal ?_
      refine JC.region ?_
      refine JO.v (Yv.move rfl) (by decide) ?_
      first | refine JO.v (Yv.as (v' := .agg x.cells.toArray) (Yv.loadOwn agg_35 (by repeat (first | exact List.Mem.head _ | refine List.Mem.tail _ ?_)) rfl (by first | rfl | (simp; done) | (simp; omega) | (simp [*]; done))) rfl) (by decide) ?_ | refine JO.v (Yv.as (v' := .agg x.cells.toArray) (Yv.loadOwnAt agg_35 (by repeat (first | exact List.Mem.head _ | refine List.Mem.tail _ ?_)) rfl (by first | rfl | (simp; done) | (simp; omega) | (simp [*]; done))) rfl) (by decide) ?_ | refine JO.v (Yv.as (v' := .agg x.cells.toArray) (Yv.loadRow agg_35 (by repeat (first | exact List.Mem.head _ | refine List.Mem.tail _ ?_)) rfl (by first | rfl | (simp; done) | (simp; omega) | (simp [*]; done))) rfl) (by decide) ?_ | refine JO.v (Yv.as (v' := .agg x.cells.toArray) (Yv.loadRd agg_35 (by repeat (first | exact Lend.same _ _ | exact Lend.row _ _ _ _ _ _ (by decide) | apply Lend.there)) rfl (by first | rfl | (simp; done) | (simp; omega) | (simp [*]; done))) rfl) (by decide) ?_ | refine JO.v (Yv.as (v' := .agg x.cells.toArray) (Yv.loadRo agg_35 (by repeat (first | exact List.Mem.head _ | refine List.Mem.tail _ ?_)) rfl (by first | rfl | (simp; done) | (simp; omega) | (simp [*]; done))) rfl) (by decide) ?_
      refine JO.lit Try.underlying31 info_35 rfl rfl (by intro v hv; simp at hv; subst hv; rfl) (by decide) (by decide) (by unfold maxLen; omega) (by decide) fun v33 => ?_
      refine JO.append Try.underlying31 info_35 rfl (by decide) rfl rfl (by repeat (first | exact Pull.here _ _ | apply Pull.there)) (by first | exact Src.nil | exact Src.rd (by repeat (first | exact Lend.same _ _ | exact Lend.row _ _ _ _ _ _ (by decide) | apply Lend.there)) (by decide) | exact Src.cells (by repeat (first | exact List.Mem.head _ | refine List.Mem.tail _ ?_)) (by simp)) (by first | exact it_ones [x] | (intro a ha; exact it_ones [x] a (by rw [itC_one]; simpa using ha))) (by unfold maxLen; simp at hol; omega) (by simp at hol; omega) (by decide) fun v34 => ?_
      refine JO.v (Yv.assign rfl) (by decide) ?_
      refine JO.nil ?_
      refine JQ.block_normal ?_
      rw [show itC out ++ List.flatMap (fun v : Value => v.cells.toList) [.agg x.cells.toArray] = itC (out ++ [x]) from by rw [itC_append, itC_one]; rfl, show out.length + 1 = (out ++ [x]).length from by simp]
      refine JQ.head (out ++ [x], R', hs2, v2, v34) (by repeat (first | exact trivial | refine ⟨by first | rfl | (simp; done), ?_⟩)) (Subs.sub (by repeat (first | exact Subs.nil _ | apply Subs.cons | exact List.Mem.head _ | refine List.Mem.tail _ ?_))) (Picks.perm (by repeat (first | exact Picks.nil _ | apply Picks.cons | exact Pull.here _ _ | apply Pull.there))) ?_
      refine ⟨⟨hQ2, ?_, ?_, by simp at hl; dsimp only; omega, by simp at hol ⊢; omega⟩, by simp⟩
      · dsimp only; rw [hT, (due_some (x := x) (R := R') hc1.2).1, List.append_assoc]; rfl
      · dsimp only; rw [hD, (due_some (x := x) (R := R') hc1.2).2]
    · try simp only [decide_eq_true_eq, decide_eq_false_iff_not, Bool.not_eq_true', Bool.not_eq_false', ne_eq, Decidable.not_not, Bool.not_eq_true, Bool.and_eq_true, Bool.or_eq_true, BitVec.reduceToNat] at hc1
      obtain ⟨e1, e2⟩ := due_none hc1
      rw [e1, List.append_nil] at hT
      rw [e2] at hD
      refine JC.exit ?_
      refine JQ.then_exit ?_
      refine JQ.then_exit ?_
      refine JQ.block_exit ?_
      refine JQ.then_normal ?_
      refine JC.seq ?_
      refine JC.region ?_
      refine JO.v (Yv.move rfl) (by decide) ?_
      refine JO.v (Yv.assign rfl) (by decide) ?_
      refine JO.nil ?_
      refine JQ.then_normal ?_
      refine JC.ret ?_
      exact JQ.done (.inr rfl) (Γ' := []) (H' := [Res.cells p [_, _] 28, Res.row _ _ 59 3 _, Res.row _ _ 35 2 _]) (res1 rfl (RV.tmp rfl)) (Subs.sub (by repeat (first | exact Subs.nil _ | apply Subs.cons | exact List.Mem.head _ | refine List.Mem.tail _ ?_))) (Picks.perm (by repeat (first | exact Picks.nil _ | apply Picks.cons | exact Pull.here _ _ | apply Pull.there))) ⟨_, _, by rw [hD]; exact hQ, rfl, by rw [hT]⟩
end Go.Proofs.Ytmefjbmaghjpfaa
