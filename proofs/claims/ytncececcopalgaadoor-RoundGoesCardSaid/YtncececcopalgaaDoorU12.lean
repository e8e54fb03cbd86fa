/- Walk: RoundGoes. -/
import Derived.Test.YtncececcopalgaaDoorU8
import Derived.Test.YtncececcopalgaaDoorJ16
namespace Go.Proofs.YtncececcopalgaaDoor
open Go.RowKit
set_option maxRecDepth 100000
set_option linter.unusedVariables false
set_option linter.unusedSimpArgs false
theorem f6b_spec (u : Value) (S : List W64) (sh : Int) (hneg : sh < 0) :
    Spec Tryd.prog 6 #[u, (it sh)] [Res.var 0 [u64 9223372036854775808, u64 0, u64 0, u64 0], Res.rd u S.length 1 (S.map u64)] []
      (fun r Γ' H' => r = (.bool true) ∧ Γ' = [] ∧ H' = []) := by
  refine Spec.of_args Tryd.func6 rfl Tryd.ntmps6 (by simp) fun w => ?_
  refine JC.know (φ := S.length ≤ 9223372036854775807) (fun w hs => by obtain ⟨_, _, _, _, _, _, h⟩ := hs.rdForm (.tail _ (.head _)); unfold maxLen at h; omega) fun hl0 => ?_
  refine .seq (.region ?_)
  refine .w (.assign rfl) ?_
  refine .nil (.tn (.seq (.region ?_)))
  refine .c f8_spec body_8 ?_
  refine .w (.assign rfl) ?_
  refine .nil (.tn (.seq (.seq (.region ?_))))
  refine .w (.move rfl) ?_
  refine .w (.len Tryd.underlying22 rfl) ?_
  refine .w (.bin rfl rfl BinR.gtr_i) ?_
  refine .w (.move rfl) ?_
  refine .join 4 24 (.bool (decide (7 < (S.length : Int) ∨ BitVec.ofNat 64 (sumS S) = 0#64))) ?_ ?_
  · refine .gn (g := 19) rfl (fun hg8 hg8' => ?_) (fun hg8 hg8' => ?_)
    · refine .gf (g := 20) rfl rfl hg8 (by decide) ?_
      refine .gf (g := 20) rfl rfl hg8 (by decide) ?_
      refine .gf (g := 20) rfl rfl hg8 (by decide) ?_
      refine .w (.pick1 rfl hg8 rfl) ?_
      refine .nil ?_
      refine .head () (by first | (refine ⟨by first | rfl | exact congrArg some (congrArg Value.bool (by first | (simp [hg8']; done) | simp_all)), ?_⟩; repeat (first | exact trivial | refine ⟨rfl, ?_⟩))) (fun _ h => h) (Picks.perm (by repeat (first | exact Picks.nil _ | apply Picks.cons | exact Pull.here _ _ | apply Pull.there))) ?_
      trivial
    · refine .gt (g := 20) rfl rfl hg8 ?_
      refine .w (.move rfl) ?_
      refine .gt (g := 20) rfl rfl hg8 ?_
      refine .c (f20_spec u S.length S rfl (by omega)) body_20 ?_
      refine .gt (g := 20) rfl rfl hg8 ?_
      refine .w (.bin rfl rfl (BinR.eql_u64 (b := 0#64))) ?_
      refine .w (.pick0 rfl hg8 rfl) ?_
      refine .nil ?_
      refine .head () (by first | (refine ⟨by first | rfl | exact congrArg some (congrArg Value.bool (by first | (simp [hg8']; done) | simp_all)), ?_⟩; repeat (first | exact trivial | refine ⟨rfl, ?_⟩))) (fun _ h => h) (Picks.perm (by repeat (first | exact Picks.nil _ | apply Picks.cons | exact Pull.here _ _ | apply Pull.there))) ?_
      trivial
  · refine .nil (.tn ?_)
    refine .cn rfl (fun hc1 => ?_) (fun hc1 => ?_)
    · skip
      refine .seq (.region ?_)
      refine .w (.move rfl) ?_
      refine .w (.assign rfl) ?_
      refine .nil (.tn (.ret (.then_ret ?_)))
      exact .dn [] [] (res1 rfl (.tmp rfl)) ⟨rfl, rfl, rfl⟩
    · have hl7 : S.length ≤ 7 := by
        have : ¬ 7 < (S.length : Int) := fun h => hc1 (.inl h)
        omega
      have hsum : 0 < sumS S := by
        apply Nat.pos_of_ne_zero
        intro e
        exact hc1 (.inr (by rw [e]))
      have h1 := sum_pos hsum
      refine .skip (.tn (.seq (.seq (.region ?_))))
      refine .w (.assign rfl) ?_
      refine .nil (.tn (.block ?_))
      refine .lp (ι := Nat) (fun x => x ≤ S.length ∧ ∀ j : Nat, j < x → (S.getD j 0).toNat < 72057594037927936) (fun T x => (6, it (x : Int)) :: T) (fun T _ => T) (fun T _ => T) (fun x => S.length - x) 0 [0, 1, 5, 7, 8, 9, 10, 11, 12, 13, 14, 15, 38, 39, 40, 41, 42, 43, 44, 45, 46, 47, 48, 49, 50, 51, 52, 53, 54, 55, 56, 58, 59, 60, 61, 62, 63, 64, 65, 66, 67, 68, 69, 70, 71, 72, 73, 74, 75, 76, 77, 78, 79, 80, 82, 83, 84, 85, 86, 87, 88, 89, 90, 91, 92, 93, 94, 95, 96, 97, 98, 99, 100, 101, 102, 103, 104, 105, 106, 107, 108, 109, 110, 111, 112, 113, 114, 115, 116, 117, 118, 119, 120, 121, 122, 123, 124, 125, 126, 127, 128, 129] ?_ (fun x hx => ?_)
      · exact ⟨Nat.zero_le _, fun j hj => absurd hj (Nat.not_lt_zero _)⟩
      obtain ⟨hx, hj⟩ := hx
      refine .seq (.seq (.region ?_))
      refine .w (.move rfl) ?_
      refine .w (.move rfl) ?_
      refine .w (.len Tryd.underlying22 rfl) ?_
      refine .w (.bin rfl rfl BinR.lss_i) ?_
      refine .nil (.tn ?_)
      refine .cn rfl (fun hc2 => ?_) (fun hc2 => ?_)
      · skip
        refine .skip (.tn (.seq (.block (.seq (.region ?_)))))
        refine .w (.move rfl) ?_
        refine .w (.move rfl) ?_
        refine .w (.ix1 Tryd.underlying22 sz_48 rfl rfl) ?_
        refine .w (.as (v' := u64 (S.getD x 0)) (.ld one_48 rfl) rfl) ?_
        refine .w (.bin rfl rfl (BinR.geq_u64 (b := 72057594037927936#64))) ?_
        refine .nil (.tn ?_)
        refine .cn rfl (fun hc3 => ?_) (fun hc3 => ?_)
        · try simp only [BitVec.reduceToNat] at hc3
          skip
          refine .seq (.region ?_)
          refine .w (.move rfl) ?_
          refine .w (.assign rfl) ?_
          refine .nil (.tn (.ret (.block_ret (.then_ret (.then_ret (.block_ret (.then_ret ?_)))))))
          exact .dn [] [] (res1 rfl (.tmp rfl)) ⟨rfl, rfl, rfl⟩
        · try simp only [BitVec.reduceToNat] at hc3
          skip
          refine .skip (.block_normal (.tn (.region ?_)))
          refine .w (.move rfl) ?_
          refine .w (.asI ((x + 1 : Nat) : Int) (.bin rfl rfl (BinR.add_i (by first | (constructor <;> omega) | (constructor <;> simp <;> omega))))) ?_
          refine .w (.assign rfl) ?_
          refine .nil ?_
          refine .hd (x + 1) ?_
          exact ⟨⟨by omega, fun j h => by
            rcases Nat.lt_succ_iff_lt_or_eq.1 h with h | h
            · exact hj j h
            · subst h; first | omega | (simp only [BitVec.reduceToNat] at hc3; omega)⟩, by omega⟩
      · have hx' : x = S.length := by omega
        have hs1 := sum_56 (S := S) (fun j h => hj j (by omega))
        refine .exit (.then_exit (.then_exit (.block_exit (.tn (.seq (.region ?_))))))
        refine .w (.move rfl) ?_
        refine .w (.move rfl) ?_
        refine .c (f16n_spec u S sh h1 hl7 hneg) body_16 ?_
        refine .w (.assign rfl) ?_
        refine .nil (.tn (.seq (.seq (.region ?_))))
        refine .w (.move rfl) ?_
        refine .w (.as (v' := .bool true) (.bin rfl rfl (BinR.eql_p Tryd.underlying50)) rfl) ?_
        refine .nil (.tn ?_)
        refine .ct rfl ?_
        refine .seq (.region ?_)
        refine .w (.move rfl) ?_
        refine .w (.move rfl) ?_
        refine .gt (g := 44) rfl rfl rfl ?_
        refine .w (.move rfl) ?_
        refine .gt (g := 44) rfl rfl rfl ?_
        refine .w (.as (v' := .bool true) (.bin rfl rfl BinR.lss_i) (congrArg Value.bool (decide_eq_true hneg))) ?_
        refine .w (.pick1 rfl rfl rfl) ?_
        refine .w (.assign rfl) ?_
        refine .nil (.tn (.ret (.then_ret ?_)))
        exact .dn [] [] (res1 rfl (.tmp rfl)) ⟨rfl, rfl, rfl⟩

theorem f6a_spec (u : Value) (S : List W64) (sh : Int) (h0 : 0 ≤ sh) (hsh : sh ≤ 9223372036854775807) :
    Spec Tryd.prog 6 #[u, (it sh)] [Res.var 0 [u64 9223372036854775808, u64 0, u64 0, u64 0], Res.rd u S.length 1 (S.map u64)] []
      (fun r Γ' H' => r = (.bool true) ∧ Γ' = [] ∧ H' = []) := by
  refine Spec.of_args Tryd.func6 rfl Tryd.ntmps6 (by simp) fun w => ?_
  refine JC.know (φ := S.length ≤ 9223372036854775807) (fun w hs => by obtain ⟨_, _, _, _, _, _, h⟩ := hs.rdForm (.tail _ (.head _)); unfold maxLen at h; omega) fun hl0 => ?_
  refine .seq (.region ?_)
  refine .w (.assign rfl) ?_
  refine .nil (.tn (.seq (.region ?_)))
  refine .c f8_spec body_8 ?_
  refine .w (.assign rfl) ?_
  refine .nil (.tn (.seq (.seq (.region ?_))))
  refine .w (.move rfl) ?_
  refine .w (.len Tryd.underlying22 rfl) ?_
  refine .w (.bin rfl rfl BinR.gtr_i) ?_
  refine .w (.move rfl) ?_
  refine .join 4 24 (.bool (decide (7 < (S.length : Int) ∨ BitVec.ofNat 64 (sumS S) = 0#64))) ?_ ?_
  · refine .gn (g := 19) rfl (fun hg8 hg8' => ?_) (fun hg8 hg8' => ?_)
    · refine .gf (g := 20) rfl rfl hg8 (by decide) ?_
      refine .gf (g := 20) rfl rfl hg8 (by decide) ?_
      refine .gf (g := 20) rfl rfl hg8 (by decide) ?_
      refine .w (.pick1 rfl hg8 rfl) ?_
      refine .nil ?_
      refine .head () (by first | (refine ⟨by first | rfl | exact congrArg some (congrArg Value.bool (by first | (simp [hg8']; done) | simp_all)), ?_⟩; repeat (first | exact trivial | refine ⟨rfl, ?_⟩))) (fun _ h => h) (Picks.perm (by repeat (first | exact Picks.nil _ | apply Picks.cons | exact Pull.here _ _ | apply Pull.there))) ?_
      trivial
    · refine .gt (g := 20) rfl rfl hg8 ?_
      refine .w (.move rfl) ?_
      refine .gt (g := 20) rfl rfl hg8 ?_
      refine .c (f20_spec u S.length S rfl (by omega)) body_20 ?_
      refine .gt (g := 20) rfl rfl hg8 ?_
      refine .w (.bin rfl rfl (BinR.eql_u64 (b := 0#64))) ?_
      refine .w (.pick0 rfl hg8 rfl) ?_
      refine .nil ?_
      refine .head () (by first | (refine ⟨by first | rfl | exact congrArg some (congrArg Value.bool (by first | (simp [hg8']; done) | simp_all)), ?_⟩; repeat (first | exact trivial | refine ⟨rfl, ?_⟩))) (fun _ h => h) (Picks.perm (by repeat (first | exact Picks.nil _ | apply Picks.cons | exact Pull.here _ _ | apply Pull.there))) ?_
      trivial
  · refine .nil (.tn ?_)
    refine .cn rfl (fun hc1 => ?_) (fun hc1 => ?_)
    · skip
      refine .seq (.region ?_)
      refine .w (.move rfl) ?_
      refine .w (.assign rfl) ?_
      refine .nil (.tn (.ret (.then_ret ?_)))
      exact .dn [] [] (res1 rfl (.tmp rfl)) ⟨rfl, rfl, rfl⟩
    · have hl7 : S.length ≤ 7 := by
        have : ¬ 7 < (S.length : Int) := fun h => hc1 (.inl h)
        omega
      have hsum : 0 < sumS S := by
        apply Nat.pos_of_ne_zero
        intro e
        exact hc1 (.inr (by rw [e]))
      have h1 := sum_pos hsum
      refine .skip (.tn (.seq (.seq (.region ?_))))
      refine .w (.assign rfl) ?_
      refine .nil (.tn (.block ?_))
      refine .lp (ι := Nat) (fun x => x ≤ S.length ∧ ∀ j : Nat, j < x → (S.getD j 0).toNat < 72057594037927936) (fun T x => (6, it (x : Int)) :: T) (fun T _ => T) (fun T _ => T) (fun x => S.length - x) 0 [0, 1, 5, 7, 8, 9, 10, 11, 12, 13, 14, 15, 38, 39, 40, 41, 42, 43, 44, 45, 46, 47, 48, 49, 50, 51, 52, 53, 54, 55, 56, 58, 59, 60, 61, 62, 63, 64, 65, 66, 67, 68, 69, 70, 71, 72, 73, 74, 75, 76, 77, 78, 79, 80, 82, 83, 84, 85, 86, 87, 88, 89, 90, 91, 92, 93, 94, 95, 96, 97, 98, 99, 100, 101, 102, 103, 104, 105, 106, 107, 108, 109, 110, 111, 112, 113, 114, 115, 116, 117, 118, 119, 120, 121, 122, 123, 124, 125, 126, 127, 128, 129] ?_ (fun x hx => ?_)
      · exact ⟨Nat.zero_le _, fun j hj => absurd hj (Nat.not_lt_zero _)⟩
      obtain ⟨hx, hj⟩ := hx
      refine .seq (.seq (.region ?_))
      refine .w (.move rfl) ?_
      refine .w (.move rfl) ?_
      refine .w (.len Tryd.underlying22 rfl) ?_
      refine .w (.bin rfl rfl BinR.lss_i) ?_
      refine .nil (.tn ?_)
      refine .cn rfl (fun hc2 => ?_) (fun hc2 => ?_)
      · skip
        refine .skip (.tn (.seq (.block (.seq (.region ?_)))))
        refine .w (.move rfl) ?_
        refine .w (.move rfl) ?_
        refine .w (.ix1 Tryd.underlying22 sz_48 rfl rfl) ?_
        refine .w (.as (v' := u64 (S.getD x 0)) (.ld one_48 rfl (hj := by first | exact RA.get_rd _ | exact RA.get_st _ | exact RA.get_me _ | exact RA.get_sh _ | exact RA.get_sv _ | exact RA.get_lkr _ | exact RA.get_vdr _ | exact RA.get_dcr _ | exact RA.get_bp _ | exact RA.get_bt _ | exact RA.get_bd _ | rfl | exact tab_get (by first | omega | (simp; omega)) | exact gm (d := 0) (by first | omega | (simp; omega)))) rfl) ?_
        refine .w (.bin rfl rfl (BinR.geq_u64 (b := 72057594037927936#64))) ?_
        refine .nil (.tn ?_)
        refine .cn rfl (fun hc3 => ?_) (fun hc3 => ?_)
        · try simp only [BitVec.reduceToNat] at hc3
          skip
          refine .seq (.region ?_)
          refine .w (.move rfl) ?_
          refine .w (.assign rfl) ?_
          refine .nil (.tn (.ret (.block_ret (.then_ret (.then_ret (.block_ret (.then_ret ?_)))))))
          exact .dn [] [] (res1 rfl (.tmp rfl)) ⟨rfl, rfl, rfl⟩
        · try simp only [BitVec.reduceToNat] at hc3
          skip
          refine .skip (.block_normal (.tn (.region ?_)))
          refine .w (.move rfl) ?_
          refine .w (.asI ((x + 1 : Nat) : Int) (.bin rfl rfl (BinR.add_i (by first | (constructor <;> omega) | (constructor <;> simp <;> omega))))) ?_
          refine .w (.assign rfl) ?_
          refine .nil ?_
          refine .hd (x + 1) ?_
          exact ⟨⟨by omega, fun j h => by
            rcases Nat.lt_succ_iff_lt_or_eq.1 h with h | h
            · exact hj j h
            · subst h; first | omega | (simp only [BitVec.reduceToNat] at hc3; omega)⟩, by omega⟩
      · have hx' : x = S.length := by omega
        have hs1 := sum_56 (S := S) (fun j h => hj j (by omega))
        refine .exit (.then_exit (.then_exit (.block_exit (.tn (.seq (.region ?_))))))
        refine .w (.move rfl) ?_
        refine .w (.move rfl) ?_
        refine .cb (f16_spec u S sh (by omega) (by omega) (fun _ => h0) hsh) body_16 ?_ (h0 := by rintro _ _ _ ⟨_, _, _, _, _, _, h, _⟩; exact h)
        rintro _ _ ⟨pw, xm, rfl, hokm, hlenm, habm, _, rfl⟩
        refine .ap ?_
        refine .w (.assign rfl) ?_
        refine .nil (.tn (.seq (.seq (.region ?_))))
        refine .w (.move rfl) ?_
        refine .w (.as (v' := .bool false) (.bin rfl rfl (BinR.eql_p Tryd.underlying50)) rfl) ?_
        refine .nil (.tn ?_)
        refine .cf rfl ?_
        refine .skip (.tn (.seq (.seq (.region ?_))))
        refine .w (.assign rfl) ?_
        refine .nil (.tn (.block ?_))
        refine .lp (ι := Nat × WA) (fun x => x.1 ≤ S.length ∧ x.2.Ok ∧ x.2.es.length = S.length ∧ GW S sh x.2.abs 0 [] ∧ (∀ i : Nat, i < x.1 → 1 ≤ (x.2.abs.at_ i).st) ∧ ∀ i : Nat, x.1 ≤ i → i < S.length → (x.2.abs.at_ i).st = 0) (fun T x => (8, it (x.1 : Int)) :: T) (fun T _ => T) (fun T x => Res.cells pw [x.2.stv, x.2.sdv] 59 :: Res.row x.2.stv x.2.es.length 27 1 (x.2.es.map fun e => ptr e.1 0) :: Res.row x.2.sdv x.2.said.length 33 36 (msC x.2.said) :: Res.sep (stsH x.2.es) :: T) (fun x => S.length - x.1) (0, xm) [0, 4, 5, 7, 9, 10, 11, 12, 13, 14, 15, 58, 59, 60, 61, 62, 63, 64, 65, 66, 67, 68, 69, 70, 71, 72, 73, 74, 75, 76, 77, 78, 79, 80, 82, 83, 84, 85, 86, 87, 88, 89, 90, 91, 92, 93, 94, 95, 96, 97, 98, 99, 100, 101, 102, 103, 104, 105, 106, 107, 108, 109, 110, 111, 112, 113, 114, 115, 116, 117, 118, 119, 120, 121, 122, 123, 124, 125, 126, 127, 128, 129] ?_ (fun x hx => ?_)
        · exact ⟨Nat.zero_le _, hokm, hlenm, by dsimp only; rw [habm]; exact (made_GW h1 h0).1, fun i hi => absurd hi (Nat.not_lt_zero _), fun i _ hi => by dsimp only; rw [habm]; exact (made_GW h1 h0).2 i hi⟩
        obtain ⟨k, x1⟩ := x
        obtain ⟨hk, hok1, hlen1, hGW, hup, hlow⟩ := hx
        dsimp only at hk hok1 hlen1 hGW hup hlow ⊢
        refine .seq (.seq (.region ?_))
        refine .w (.move rfl) ?_
        refine .w (.move rfl) ?_
        refine .w (.len Tryd.underlying22 rfl) ?_
        refine .w (.bin rfl rfl BinR.lss_i) ?_
        refine .nil (.tn ?_)
        refine .cn rfl (fun hc5 => ?_) (fun hc5 => ?_)
        · skip
          refine .skip (.tn (.seq (.block (.region ?_))))
          refine .w (.move rfl) ?_
          refine .w (.move rfl) ?_
          refine .w (.as (v' := .agg (PickE.mk 1 (k : Int) 0 0 Msg0).cells.toArray) (.bd bld_53) rfl) ?_
          refine .nilRow 4 1 ?_
          refine .nilRow 4 1 ?_
          refine .cb (f17_spec pw x1 hok1 ⟨1, (k : Int), 0, 0, Msg0⟩ (.slice none 0 0) [] (by decide)) body_17 ?_ (h0 := by rintro _ _ _ ⟨_, _, _, _, h, _⟩; exact h)
          rintro _ _ ⟨x9, hok9, hlen9, hab9, _, rfl⟩
          refine .ap ?_
          refine .nil (.block_normal (.tn (.region ?_)))
          refine .w (.move rfl) ?_
          refine .w (.asI ((k + 1 : Nat) : Int) (.bin rfl rfl (BinR.add_i (by first | (constructor <;> omega) | (constructor <;> simp <;> omega))))) ?_
          refine .w (.assign rfl) ?_
          refine .nil ?_
          refine .hd (k + 1, x9) ?_
          have hkn : k < S.length := by omega
          obtain ⟨g1, g2, g3⟩ := (hGW.idle k).start h1 hl7 hkn (hlow k (Nat.le_refl _) hkn) (o := ⟨1, (k : Int), 0, 0, Msg0⟩) rfl rfl
          rw [← hab9] at g1 g2 g3
          exact ⟨⟨by dsimp only; omega, hok9, by dsimp only; omega, g1.idle 0, fun i hi => by
            dsimp only
            rcases Nat.lt_succ_iff_lt_or_eq.1 hi with h | h
            · exact Int.le_trans (hup i h) (g2.st i)
            · subst h; exact g3, fun i hi hin => by
            dsimp only at hi ⊢
            rw [hab9, start_other (S := S) (by rw [hGW.len]; exact hkn) rfl rfl (by omega)]
            exact hlow i (by omega) hin⟩, by dsimp only; omega⟩
        · have hk' : k = S.length := by omega
          refine .exit (.then_exit (.then_exit (.block_exit (.tn (.seq (.seq (.region ?_)))))))
          refine .w (.assign rfl) ?_
          refine .nil (.tn (.block ?_))
          refine .lp (ι := Nat × WA) (fun x => x.1 ≤ x.2.said.length ∧ x.2.Ok ∧ x.2.es.length = S.length ∧ GW S sh x.2.abs 0 [] ∧ (∀ i : Nat, i < S.length → 1 ≤ (x.2.abs.at_ i).st) ∧ ∀ q : Nat, q < x.1 → ∀ i : Nat, i < S.length → heardM S sh (x.2.abs.at_ i) (msAt x.2.said q)) (fun T x => (9, it (x.1 : Int)) :: T) (fun T _ => T) (fun T x => Res.cells pw [x.2.stv, x.2.sdv] 59 :: Res.row x.2.stv x.2.es.length 27 1 (x.2.es.map fun e => ptr e.1 0) :: Res.row x.2.sdv x.2.said.length 33 36 (msC x.2.said) :: Res.sep (stsH x.2.es) :: T) (fun x => 50 - x.1) (0, x1) [0, 4, 5, 7, 11, 12, 13, 14, 15, 82, 83, 84, 85, 86, 87, 88, 89, 90, 91, 92, 93, 94, 95, 96, 97, 98, 99, 100, 101, 102, 103, 104, 105, 106, 107, 108, 109, 110, 111, 112, 113, 114, 115, 116, 117, 118, 119, 120, 121, 122, 123, 124, 125, 126, 127, 128, 129] ?_ (fun x hx => ?_)
          · exact ⟨Nat.zero_le _, hok1, hlen1, hGW, fun i hi => hup i (by omega), fun q hq => absurd hq (Nat.not_lt_zero _)⟩
          clear hup hlow hGW hok1 hlen1
          obtain ⟨k, x1⟩ := x
          obtain ⟨hk, hok1, hlen1, hGW, hup, hhd⟩ := hx
          dsimp only at hk hok1 hlen1 hGW hup hhd ⊢
          have hbd : x1.said.length ≤ 7 * S.length := hGW.bound
          refine .seq (.seq (.region ?_))
          refine .w (.move rfl) ?_
          refine .w (.move rfl) ?_
          refine .w (.nilCheck rfl) ?_
          refine .w (.fieldAddr fa_59_1 rfl) ?_
          refine .w (.ld one_57 rfl (hj := by first | exact RA.get_rd _ | exact RA.get_st _ | exact RA.get_me _ | exact RA.get_sh _ | exact RA.get_sv _ | exact RA.get_lkr _ | exact RA.get_vdr _ | exact RA.get_dcr _ | exact RA.get_bp _ | exact RA.get_bt _ | exact RA.get_bd _ | rfl | exact tab_get (by first | omega | (simp; omega)) | exact gm (d := 0) (by first | omega | (simp; omega)))) ?_
          refine .w (.len Tryd.underlying57 rfl) ?_
          refine .w (.bin rfl rfl BinR.lss_i) ?_
          refine .w (.move rfl) ?_
          refine .join 3 68 (.bool (decide ((k : Int) < x1.said.length ∧ (k : Int) < 400))) ?_ ?_
          · refine .gn (g := 64) rfl (fun hg62 hg62' => ?_) (fun hg62 hg62' => ?_)
            · refine .gt (g := 65) rfl rfl hg62 ?_
              refine .w (.move rfl) ?_
              refine .gt (g := 65) rfl rfl hg62 ?_
              refine .w (.bin rfl rfl BinR.lss_i) ?_
              refine .w (.pick1 rfl hg62 rfl) ?_
              refine .nil ?_
              refine .head () (by first | (refine ⟨by first | rfl | exact congrArg (fun b => some (Value.bool b)) (by first | exact (decide_eq_true (by omega)).symm | exact (decide_eq_false (by omega)).symm | exact decide_eq_decide.2 (by omega)) | (simp [*]; done) | (show some _ = some _; simp [*]; done), ?_⟩; repeat (first | exact trivial | refine ⟨rfl, ?_⟩))) (fun _ h => h) (Picks.perm (by repeat (first | exact Picks.nil _ | apply Picks.cons | exact Pull.here _ _ | apply Pull.there))) ?_
              trivial
            · refine .gf (g := 65) rfl rfl hg62 (by decide) ?_
              refine .gf (g := 65) rfl rfl hg62 (by decide) ?_
              refine .w (.pick0 rfl hg62 rfl) ?_
              refine .nil ?_
              refine .head () (by first | (refine ⟨by first | rfl | exact congrArg (fun b => some (Value.bool b)) (by first | exact (decide_eq_true (by omega)).symm | exact (decide_eq_false (by omega)).symm | exact decide_eq_decide.2 (by omega)) | (simp [*]; done) | (show some _ = some _; simp [*]; done), ?_⟩; repeat (first | exact trivial | refine ⟨rfl, ?_⟩))) (fun _ h => h) (Picks.perm (by repeat (first | exact Picks.nil _ | apply Picks.cons | exact Pull.here _ _ | apply Pull.there))) ?_
              trivial
          · refine .nil (.tn ?_)
            refine .cn rfl (fun hc6 => ?_) (fun hc6 => ?_)
            · skip
              refine .skip (.tn (.seq (.block (.seq (.region ?_)))))
              refine .w (.assign rfl) ?_
              refine .nil (.tn (.block ?_))
              refine .lp (ι := Nat × WA) (fun x => x.1 ≤ S.length ∧ x.2.Ok ∧ x.2.es.length = S.length ∧ GW S sh x.2.abs 0 [] ∧ Gr S sh x1.abs x.2.abs ∧ ∀ i : Nat, i < x.1 → heardM S sh (x.2.abs.at_ i) (msAt x1.said k)) (fun T x => (10, it (x.1 : Int)) :: T) (fun T _ => T) (fun T x => Res.cells pw [x.2.stv, x.2.sdv] 59 :: Res.row x.2.stv x.2.es.length 27 1 (x.2.es.map fun e => ptr e.1 0) :: Res.row x.2.sdv x.2.said.length 33 36 (msC x.2.said) :: Res.sep (stsH x.2.es) :: T) (fun x => S.length - x.1) (0, x1) [0, 4, 5, 7, 9, 11, 12, 13, 14, 15, 58, 59, 60, 61, 62, 63, 64, 65, 66, 67, 68, 69, 70, 82, 83, 84, 85, 86, 87, 88, 89, 90, 91, 92, 93, 94, 95, 96, 97, 98, 99, 100, 101, 102, 103, 104, 105, 106, 107, 108, 109, 110, 111, 112, 113, 114, 115, 116, 117, 118, 119, 120, 121, 122, 123, 124, 125, 126, 127, 128, 129] ?_ (fun x hx => ?_)
              · exact ⟨Nat.zero_le _, hok1, hlen1, hGW, Gr.refl _, fun q hq => absurd hq (Nat.not_lt_zero _)⟩
              obtain ⟨i, x2⟩ := x
              obtain ⟨hi, hok2, hlen2, hGW2, hGr, hhd2⟩ := hx
              dsimp only at hi hok2 hlen2 hGW2 hGr hhd2 ⊢
              refine .seq (.seq (.region ?_))
              refine .w (.move rfl) ?_
              refine .w (.move rfl) ?_
              refine .w (.len Tryd.underlying22 rfl) ?_
              refine .w (.bin rfl rfl BinR.lss_i) ?_
              refine .nil (.tn ?_)
              refine .cn rfl (fun hc7 => ?_) (fun hc7 => ?_)
              · skip
                refine .skip (.tn (.seq (.block (.region ?_))))
                refine .w (.move rfl) ?_
                refine .w (.move rfl) ?_
                refine .w (.move rfl) ?_
                refine .w (.as (v' := .agg (PickE.mk 2 (i : Int) (k : Int) 0 Msg0).cells.toArray) (.bd bld_53) rfl) ?_
                refine .nilRow 4 1 ?_
                refine .nilRow 4 1 ?_
                refine .cb (f17_spec pw x2 hok2 ⟨2, (i : Int), (k : Int), 0, Msg0⟩ (.slice none 0 0) [] (by decide)) body_17 ?_ (h0 := by rintro _ _ _ ⟨_, _, _, _, h, _⟩; exact h)
                rintro _ _ ⟨x9, hok9, hlen9, hab9, _, rfl⟩
                refine .ap ?_
                refine .nil (.block_normal (.tn (.region ?_)))
                refine .w (.move rfl) ?_
                refine .w (.asI ((i + 1 : Nat) : Int) (.bin rfl rfl (BinR.add_i (by first | (constructor <;> omega) | (constructor <;> simp <;> omega))))) ?_
                refine .w (.assign rfl) ?_
                refine .nil ?_
                refine .hd (i + 1, x9) ?_
                have hin : i < S.length := by omega
                have hks : k < x1.abs.said.length := by show k < x1.said.length; omega
                have hkm := hGr.msAt hks
                obtain ⟨g1, g2, g3⟩ := (hGW2.idle i).tell h1 hl7 hin (o := ⟨2, (i : Int), (k : Int), 0, Msg0⟩) rfl rfl (k := k) rfl (by omega)
                rw [← hab9] at g1 g2 g3
                exact ⟨⟨by dsimp only; omega, hok9, by dsimp only; omega, g1.idle 0, hGr.trans g2, fun q hq => by
                  dsimp only
                  rcases Nat.lt_succ_iff_lt_or_eq.1 hq with h | h
                  · exact g2.hm q _ (hhd2 q h)
                  · subst h; rw [show msAt x1.said k = msAt x2.abs.said k from hkm.1.symm]; exact g3⟩, by dsimp only; omega⟩
              · skip
                refine .exit (.then_exit (.then_exit (.block_exit (.block_normal (.tn (.region ?_))))))
                refine .w (.move rfl) ?_
                refine .w (.asI ((k + 1 : Nat) : Int) (.bin rfl rfl (BinR.add_i (by first | (constructor <;> omega) | (constructor <;> simp <;> omega))))) ?_
                refine .w (.assign rfl) ?_
                refine .nil ?_
                refine .hd (k + 1, x2) ?_
                exact ⟨⟨by dsimp only; have h2 := (hGr.msAt (k := k) (by show k < x1.said.length; omega)).2; have h2 : x1.said.length ≤ x2.said.length := h2; omega, hok2, hlen2, hGW2, fun j hj => Int.le_trans (hup j hj) (hGr.st j), fun q hq j hj => by
                  dsimp only
                  rw [show msAt x2.said q = msAt x1.said q from (hGr.msAt (k := q) (by show q < x1.said.length; dsimp only at hq; omega)).1]
                  rcases Nat.lt_succ_iff_lt_or_eq.1 hq with h | h
                  · exact hGr.hm j _ (hhd q h j hj)
                  · subst h; exact hhd2 j (by omega)⟩, by dsimp only; omega⟩
            · have hkk : k = x1.said.length := by omega
              have hdone := hGW.done h1 hl7 hsum hup (fun m hm i hi => by obtain ⟨q, hq, e⟩ := ms_ex hm; rw [← e]; exact hhd q (by have : q < x1.said.length := hq; omega) i hi)
              have hw0 : 0 < x1.es.length := by omega
              have hpz := (pz_lt (sh := sh) h1).1
              obtain ⟨B0, hB0, _⟩ := x1.split hw0
              refine .exit (.then_exit (.then_exit (.block_exit (.tn (.seq (.region ?_))))))
              refine .w (.move rfl) ?_
              refine .w (.nilCheck rfl) ?_
              refine .w (.fieldAddr fa_59_0 rfl) ?_
              refine .w (.ld one_56 rfl (hj := by first | exact RA.get_rd _ | exact RA.get_st _ | exact RA.get_me _ | exact RA.get_sh _ | exact RA.get_sv _ | exact RA.get_lkr _ | exact RA.get_vdr _ | exact RA.get_dcr _ | exact RA.get_bp _ | exact RA.get_bt _ | exact RA.get_bd _ | rfl | exact tab_get (by first | omega | (simp; omega)) | exact gm (d := 0) (by first | omega | (simp; omega)))) ?_
              refine .w (.ix1 (j := 0) Tryd.underlying56 sz_27 rfl rfl) ?_
              refine .w (.ld one_27 rfl (hj := by exact WA.at_ptr (by omega))) ?_
              refine .us hB0 ?_
              refine .c (f21_spec (x1.at_ 0).1 (x1.at_ 0).2 (WA.at_ok hok1 (by omega)) 0) body_21 ?_
              refine .rs hB0 ?_
              rw [show (x1.at_ 0).2.abs.proposer 0 = ((pz S sh : Nat) : Int) from by rw [← WA.at_abs hw0]; exact prop0 (hGW.gi 0 (by omega)) h1]
              refine .w (.assign rfl) ?_
              refine .nil (.tn (.seq (.seq (.region ?_))))
              refine .w (.assign rfl) ?_
              refine .nil (.tn (.block ?_))
              refine .lp (ι := Nat) (fun x => x ≤ S.length) (fun T x => (12, it (x : Int)) :: T) (fun T _ => T) (fun T _ => T) (fun x => S.length - x) 0 [0, 5, 7, 11, 129] ?_ (fun x hx => ?_)
              · exact Nat.zero_le _
              refine .seq (.seq (.region ?_))
              refine .w (.move rfl) ?_
              refine .w (.move rfl) ?_
              refine .w (.len Tryd.underlying22 rfl) ?_
              refine .w (.bin rfl rfl BinR.lss_i) ?_
              refine .nil (.tn ?_)
              refine .cn rfl (fun hc8 => ?_) (fun hc8 => ?_)
              · have hat := WA.at_abs (x := x1) (i := x) (by omega)
                obtain ⟨hd1, hd2⟩ := hdone x (by omega)
                rw [hat] at hd1 hd2
                have hdc : (x1.at_ x).2.dc = ⟨vz S sh, 0⟩ := hd1
                have hrd : (x1.at_ x).2.rd = 0 := hd2
                obtain ⟨B, hB, _⟩ := x1.split (i := x) (by omega)
                refine .skip (.tn (.seq (.block (.seq (.region ?_)))))
                refine .w (.move rfl) ?_
                refine .w (.nilCheck rfl) ?_
                refine .w (.fieldAddr fa_59_0 rfl) ?_
                refine .w (.ld one_56 rfl (hj := by first | exact RA.get_rd _ | exact RA.get_st _ | exact RA.get_me _ | exact RA.get_sh _ | exact RA.get_sv _ | exact RA.get_lkr _ | exact RA.get_vdr _ | exact RA.get_dcr _ | exact RA.get_bp _ | exact RA.get_bt _ | exact RA.get_bd _ | rfl | exact tab_get (by first | omega | (simp; omega)) | exact gm (d := 0) (by first | omega | (simp; omega)))) ?_
                refine .w (.move rfl) ?_
                refine .w (.ix1 Tryd.underlying56 sz_27 rfl rfl) ?_
                refine .w (.ld one_27 rfl (hj := by exact WA.at_ptr (by omega))) ?_
                refine .us hB ?_
                refine .c (f18_spec (x1.at_ x).1 (x1.at_ x).2) body_18 ?_
                refine .w (.move rfl) ?_
                refine .w (.as (v' := dgV (vz S sh)) (.extract rfl rfl) (by rw [hdc]; rfl)) ?_
                refine .w (.as (v' := .bool true) (.extract rfl rfl) (congrArg Value.bool (by rw [hdc]; rfl))) ?_
                refine .al zero_24 fun b13 => ?_
                refine .sa sz_24 ?_ (h1 := (dg_one _))
                refine .w (.assign rfl) ?_
                refine .nil (.tn (.seq (.region ?_)))
                refine .w (.move rfl) ?_
                refine .w (.nilCheck rfl) ?_
                refine .w (.fieldAddr fa_59_0 rfl) ?_
                refine .w (.ld one_56 rfl (hj := by first | exact RA.get_rd _ | exact RA.get_st _ | exact RA.get_me _ | exact RA.get_sh _ | exact RA.get_sv _ | exact RA.get_lkr _ | exact RA.get_vdr _ | exact RA.get_dcr _ | exact RA.get_bp _ | exact RA.get_bt _ | exact RA.get_bd _ | rfl | exact tab_get (by first | omega | (simp; omega)) | exact gm (d := 0) (by first | omega | (simp; omega)))) ?_
                refine .w (.move rfl) ?_
                refine .w (.ix1 Tryd.underlying56 sz_27 rfl rfl) ?_
                refine .w (.ld one_27 rfl (hj := by exact WA.at_ptr (by omega))) ?_
                refine .c (f13_spec (x1.at_ x).1 (x1.at_ x).2) body_13 ?_
                refine .rs hB ?_
                refine .w (.as (v' := it 0) (.assign rfl) (congrArg it hrd)) ?_
                refine .nil (.tn (.seq (.region ?_)))
                refine .w (.move rfl) ?_
                refine .w (.as (v' := .bool false) (.not rfl) rfl) ?_
                refine .w (.move rfl) ?_
                refine .join 12 128 (.bool false) ?_ ?_
                · refine .gt (g := 116) rfl rfl rfl ?_
                  refine .w (.as (v' := dgV (vz S sh)) (.lda agg_24 rfl) rfl) ?_
                  refine .gt (g := 116) rfl rfl rfl ?_
                  refine .w (.move rfl) ?_
                  refine .gt (g := 116) rfl rfl rfl ?_
                  refine .w (.asI ((4 * pz S sh : Nat) : Int) (.bin rfl rfl (BinR.mul_i (by first | (constructor <;> omega) | (constructor <;> simp <;> omega))))) ?_
                  refine .gt (g := 116) rfl rfl rfl ?_
                  refine .w (.asI ((4 * pz S sh + 1 : Nat) : Int) (.bin rfl rfl (BinR.add_i (by first | (constructor <;> omega) | (constructor <;> simp <;> omega))))) ?_
                  refine .gt (g := 116) rfl rfl rfl ?_
                  refine .w (.conv_i_u8 Tryd.underlying3 Tryd.underlying5 rfl) ?_
                  refine .gt (g := 116) rfl rfl rfl ?_
                  refine .w (.as (v' := dgV (vz S sh)) (.build bld_24 rfl rfl) (by first | rfl | (simp [vz, AW.dg4, dg1, splice, List.replicate]; done))) ?_
                  refine .gt (g := 116) rfl rfl rfl ?_
                  refine .w (.as (v' := .bool false) (.bin rfl rfl (neq_dig)) (congrArg Value.bool (decide_eq_false (fun h => h rfl)))) ?_
                  refine .w (.pick0 rfl rfl rfl) ?_
                  refine .w (.move rfl) ?_
                  refine .gt (g := 125) rfl rfl rfl ?_
                  refine .w (.move rfl) ?_
                  refine .gt (g := 125) rfl rfl rfl ?_
                  refine .w (.as (v' := .bool false) (.bin rfl rfl BinR.neq_i) (congrArg Value.bool (decide_eq_false (fun h => h rfl)))) ?_
                  refine .w (.pick0 rfl rfl rfl) ?_
                  refine .nil ?_
                  refine .head () (by first | (refine ⟨by first | rfl | exact congrArg (fun b => some (Value.bool b)) (by first | exact (decide_eq_true (by omega)).symm | exact (decide_eq_false (by omega)).symm | exact decide_eq_decide.2 (by omega)) | (simp [*]; done) | (show some _ = some _; simp [*]; done), ?_⟩; repeat (first | exact trivial | refine ⟨rfl, ?_⟩))) (fun _ h => h) (Picks.perm (by repeat (first | exact Picks.nil _ | apply Picks.cons | exact Pull.here _ _ | apply Pull.there))) ?_
                  trivial
                · refine .nil (.tn ?_)
                  refine .cf rfl ?_
                  refine .skip (.block_normal (.tn (.region ?_)))
                  refine .w (.move rfl) ?_
                  refine .w (.asI ((x + 1 : Nat) : Int) (.bin rfl rfl (BinR.add_i (by first | (constructor <;> omega) | (constructor <;> simp <;> omega))))) ?_
                  refine .w (.assign rfl) ?_
                  refine .nil ?_
                  refine .hd (x + 1) ?_
                  exact ⟨by omega, by omega⟩
              · skip
                refine .exit (.then_exit (.then_exit (.block_exit (.tn (.seq (.region ?_))))))
                refine .w (.move rfl) ?_
                refine .w (.assign rfl) ?_
                refine .nil (.tn (.ret ?_))
                exact .dn [] [] (res1 rfl (.tmp rfl)) ⟨rfl, rfl, rfl⟩

theorem f6_spec (u : Value) (S : List W64) (sh : Int) (hsh : sh ≤ 9223372036854775807) : Spec Tryd.prog 6 #[u, (it sh)] [Res.var 0 [u64 9223372036854775808, u64 0, u64 0, u64 0], Res.rd u S.length 1 (S.map u64)] [] (fun r Γ' H' => r = (.bool true) ∧ Γ' = [] ∧ H' = []) := by
  by_cases h : sh < 0
  · exact f6b_spec u S sh h
  · exact f6a_spec u S sh (by omega) hsh
end Go.Proofs.YtncececcopalgaaDoor
