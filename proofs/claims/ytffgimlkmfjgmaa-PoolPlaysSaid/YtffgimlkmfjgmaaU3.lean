/- Walk: PoolPlays. -/
import Derived.Test.YtffgimlkmfjgmaaP10
import Derived.Test.YtffgimlkmfjgmaaP7
import Derived.Test.YtffgimlkmfjgmaaW17
namespace Go.Proofs.Ytffgimlkmfjgmaa
open Go.RowKit
set_option maxRecDepth 100000
set_option linter.unusedVariables false
set_option linter.unusedSimpArgs false
theorem lists_first (l w : Value) (D B : Pcs) (n : Int) : Spec Try.prog 10 #[l, (if n < 1 then .slice none 0 0 else cutV 1 w 0 (min n.toNat B.length))] [Res.rd l D.length 1 (D.map Prod.fst), Res.rd w B.length 1 (B.map Prod.fst), Res.all (pcRes D), Res.all (pcRes B)] [] (fun r Γ' H' => r = .bool (decide (bytesP D = (bytesP B).take (max 0 (min n (B.length : Int))).toNat)) ∧ Γ' = [] ∧ H' = []) := by
  by_cases hn : n < 1
  · rw [if_pos hn]
    have e : (bytesP B).take (max 0 (min n (B.length : Int))).toNat = bytesP [] := by rw [show (max 0 (min n (B.length : Int))).toNat = 0 by omega]; rfl
    rw [e]
    refine (f10_spec l (.slice none 0 0) D []).from ?_ ?_
    · intro r hr q hq
      simp only [List.mem_cons, List.not_mem_nil, or_false] at hr
      rcases hr with rfl | rfl | rfl | rfl
      · exact ⟨_, by simp, hq⟩
      · exact absurd rfl (Res.rd_fp.1 hq).1
      · exact ⟨_, by simp, hq⟩
      · obtain ⟨r, hr, _⟩ := hq; cases hr
    · intro w hs r hr
      simp only [List.mem_cons, List.not_mem_nil, or_false] at hr
      rcases hr with rfl | rfl | rfl | rfl
      · exact hs _ (by simp)
      · exact Res.rd_ok.2 ⟨none, 0, rfl, rfl, Nat.zero_le _, Nat.le_refl _, fun j u hj => by cases hj⟩
      · exact hs _ (by simp)
      · intro r hr; cases hr
  · rw [if_neg hn]
    obtain ⟨q, hq⟩ : ∃ q, min n.toNat B.length = q := ⟨_, rfl⟩
    have e : (bytesP B).take (max 0 (min n (B.length : Int))).toNat = bytesP (B.take q) := by rw [show (max 0 (min n (B.length : Int))).toNat = q by omega]; simp [bytesP, List.map_take]
    rw [e, hq]
    have hql : q ≤ B.length := by omega
    refine (f10_spec l (cutV 1 w 0 q) D (B.take q)).from ?_ ?_
    · intro r hr k hk
      simp only [List.mem_cons, List.not_mem_nil, or_false] at hr
      rcases hr with rfl | rfl | rfl | rfl
      · exact ⟨_, by simp, hk⟩
      · exact ⟨Res.rd w B.length 1 (B.map Prod.fst), by simp, cut_fp (fun h e => h (by rw [List.map_take, e]; simp)) k hk⟩
      · exact ⟨_, by simp, hk⟩
      · obtain ⟨s, hs, hk⟩ := hk
        obtain ⟨x, hx, rfl⟩ := List.mem_map.1 hs
        exact ⟨Res.all (pcRes B), by simp, _, List.mem_map.2 ⟨x, List.mem_of_mem_take hx, rfl⟩, hk⟩
    · intro w' hs r hr
      simp only [List.mem_cons, List.not_mem_nil, or_false] at hr
      rcases hr with rfl | rfl | rfl | rfl
      · exact hs _ (by simp)
      · have := cut_ok (Res.rd_ok.1 (hs (Res.rd w B.length 1 (B.map Prod.fst)) (by simp))) (Nat.zero_le q) hql
        refine Res.rd_ok.2 ?_
        rw [List.length_take, Nat.min_eq_left hql, List.map_take]
        simpa using this
      · exact hs _ (by simp)
      · intro r hr
        obtain ⟨x, hx, rfl⟩ := List.mem_map.1 hr
        exact hs (Res.all (pcRes B)) (by simp) _ (List.mem_map.2 ⟨x, List.mem_of_mem_take hx, rfl⟩)

set_option maxHeartbeats 2000000 in
theorem f5_spec (lv : Value) (L : List OpQ) :
    Spec Try.prog 5 #[lv] [Res.rd lv L.length 3 (bks oqC L), Res.all (oqRes L)] []
      (fun r Γ' H' => r = .bool true ∧ Γ' = [] ∧ H' = []) := by
  refine Spec.of_args Try.func5 rfl Try.ntmps5 (by simp) fun w => ?_
  refine JC.know (φ := L.length ≤ 9223372036854775807) (fun w hs => by obtain ⟨_, _, _, _, _, _, h⟩ := hs.rdForm (.head _); unfold maxLen at h; omega) fun hll => ?_
  refine .seq (.region ?_)
  refine .w (.assign rfl) ?_
  refine .nil (.tn (.seq (.region ?_)))
  refine .c f6_spec body_6 ?_
  refine .w (.assign rfl) ?_
  refine .nil (.tn (.seq (.region ?_)))
  refine .w (.as (v' := .agg #[.slice none 0 0, .map none]) (.bd bld_39 (hf := .nil _)) rfl) ?_
  refine .bx fun b19 => ?_
  rw [show (Value.agg #[Value.slice none 0 0, .map none]).cells.toList = [.slice none 0 0, .map none] from rfl]
  refine JO.nilRow 24 1 ?_
  refine JO.sp0 ?_
  refine JO.all0 ?_
  refine .w (.assign rfl) ?_
  refine .nil (.tn (.seq (.region ?_)))
  refine .w (.as (v' := .agg #[.slice none 0 0, .slice none 0 0]) (.bd bld_52 (hf := .nil _)) rfl) ?_
  refine .bx fun b21 => ?_
  rw [show (Value.agg #[Value.slice none 0 0, .slice none 0 0]).cells.toList = [.slice none 0 0, .slice none 0 0] from rfl]
  refine JO.nilRow 24 1 ?_
  refine JO.nilRow 24 1 ?_
  refine .w (.assign rfl) ?_
  refine .nil (.tn (.seq (.seq (.region ?_))))
  refine .w (.move rfl) ?_
  refine .w (.len Try.underlying35 rfl) ?_
  refine .w (.bin rfl rfl BinR.gtr_i) ?_
  refine .nil (.tn ?_)
  refine .cn rfl (fun hc1 => ?_) (fun hc1 => ?_)
  · refine .seq (.region ?_)
    refine .w (.move rfl) ?_
    refine .w (.assign rfl) ?_
    refine .nil (.tn (.ret (.then_ret ?_)))
    exact .dn [] [] (res1 rfl (.tmp rfl)) ⟨rfl, rfl, rfl⟩
  · refine .skip (.tn (.seq (.seq (.region ?_))))
    refine .w (.assign rfl) ?_
    refine .nil (.tn (.block ?_))
    refine .lp (ι := Nat × Value × Value × MM B8 Bool × Pcs × Value × Value × Pcs × Pcs) (fun x => x.1 ≤ L.length ∧ Alike x.2.2.1 x.2.2.2.1 x.2.2.2.2.1 x.2.2.2.2.2.2.2.1 x.2.2.2.2.2.2.2.2 ∧ x.2.2.2.2.2.2.2.2.length ≤ 12 * x.1) (fun T x => (6, it (x.1 : Int)) :: T) (fun T x => Res.all (pcRes x.2.2.2.2.1) :: Res.all (pcRes x.2.2.2.2.2.2.2.1) :: Res.all (pcRes x.2.2.2.2.2.2.2.2) :: T) (fun T x => Res.cells b19 [x.2.1, x.2.2.1] 39 :: dnR x.2.2.1 x.2.2.2.1 :: Res.row x.2.1 x.2.2.2.2.1.length 24 1 (x.2.2.2.2.1.map Prod.fst) :: Res.cells b21 [x.2.2.2.2.2.1, x.2.2.2.2.2.2.1] 52 :: Res.row x.2.2.2.2.2.1 x.2.2.2.2.2.2.2.1.length 24 1 (x.2.2.2.2.2.2.2.1.map Prod.fst) :: Res.row x.2.2.2.2.2.2.1 x.2.2.2.2.2.2.2.2.length 24 1 (x.2.2.2.2.2.2.2.2.map Prod.fst) :: T) (fun x => L.length - x.1) (0, .slice none 0 0, .map none, MM.nil, [], .slice none 0 0, .slice none 0 0, [], []) [0, 3, 4, 5, 118] ?_ (fun x hx => ?_)
    · exact ⟨Nat.zero_le _, alike_nil, Nat.zero_le _⟩
    obtain ⟨k, wv, mv, m, A, w2, d2, B, C⟩ := x
    obtain ⟨hk, hI, hC⟩ := hx
    dsimp only at hk hI hC ⊢
    have hCl : C.length ≤ 100000 := by omega
    refine .seq (.seq (.region ?_))
    refine .w (.move rfl) ?_
    refine .w (.move rfl) ?_
    refine .w (.len Try.underlying35 rfl) ?_
    refine .w (.bin rfl rfl BinR.lss_i) ?_
    refine .nil (.tn ?_)
    refine .cn rfl (fun hc2 => ?_) (fun hc2 => ?_)
    · refine .skip (.tn (.seq (.block (.seq (.region ?_)))))
      obtain ⟨o, ho⟩ : ∃ o, oqAt L k = o := ⟨_, rfl⟩
      refine JO.open (r := Res.rd o.v o.P.length 1 (o.P.map Prod.fst)) (by repeat (first | exact List.Mem.head _ | refine List.Mem.tail _ ?_)) (ho ▸ oq_r1 (by omega)) ?_
      refine JO.open (r := Res.all (pcRes o.P)) (.tail _ (by repeat (first | exact List.Mem.head _ | refine List.Mem.tail _ ?_))) (ho ▸ oq_r2 (by omega)) ?_
      refine .w (.move rfl) ?_
      refine .w (.move rfl) ?_
      refine .w (.ix Try.underlying35 sz_41 rfl rfl) ?_
      refine .w (.as (v' := (.agg [it o.d, it o.n, o.v].toArray)) (.lda agg_41 rfl (hm := by first | exact AM.own (by (repeat (first | exact List.Mem.head _ | refine List.Mem.tail _ ?_)); first | done | fail) (by rw [bks_len]; omega) | exact AM.ro (by (repeat (first | exact List.Mem.head _ | refine List.Mem.tail _ ?_)); first | done | fail) (by rw [bks_len]; omega) | exact AM.ownAt (by (repeat (first | exact List.Mem.head _ | refine List.Mem.tail _ ?_)); first | done | fail) (by rw [bks_len]; omega) | exact AM.rd (by repeat (first | exact Lend.same _ _ | exact Lend.row _ _ _ _ _ _ (by decide) | apply Lend.there)) (by rw [bks_len]; omega) | exact AM.row (by repeat (first | exact List.Mem.head _ | refine List.Mem.tail _ ?_)) (by rw [bks_len]; omega))) (congrArg (fun l : List Value => Value.agg l.toArray) (by rw [oq_at (by omega), ho]))) ?_
      refine .al zero_41 fun b7 => ?_
      refine .sa sz_41 ?_ (h1 := (by intro a ha; simp only [List.mem_cons, List.not_mem_nil, or_false] at ha; rcases ha with rfl | rfl | rfl; rfl; rfl; exact o.one))
      refine JO.frz (r := Res.cells b7 _ _) (by repeat (first | exact Pull.here _ _ | apply Pull.there)) ?_
      refine .nil (.tn (.seq (.region ?_)))
      refine .w (.fieldAddr fa_41_2 rfl) ?_
      refine .w (.ld one_23 rfl) ?_
      refine .c (f7_spec o.v o.P) body_7 ?_
      refine .w (.assign rfl) ?_
      refine .nil (.tn (.seq (.seq (.region ?_))))
      refine .w (.move rfl) ?_
      refine .w (.not rfl) ?_
      refine .nil (.tn ?_)
      refine .cn rfl (fun hc3 => ?_) (fun hc3 => ?_)
      · refine .seq (.region ?_)
        refine .w (.move rfl) ?_
        refine .w (.assign rfl) ?_
        refine .nil (.tn (.ret (.then_ret (.block_ret (.then_ret (.then_ret (.block_ret (.then_ret ?_))))))))
        exact .dn [] [] (res1 rfl (.tmp rfl)) ⟨rfl, rfl, rfl⟩
      · have hP12 : o.P.length ≤ 12 := by have := hc3.1; rwa [bytesP_len] at this
        refine .skip (.tn (.seq (.region ?_)))
        refine .w (.assign rfl) ?_
        refine .nil (.tn (.seq (.region ?_)))
        refine .w (.assign rfl) ?_
        refine .nil (.tn (.seq (.region ?_)))
        refine .w (.assign rfl) ?_
        refine .nil (.tn (.seq (.region ?_)))
        refine .w (.fieldAddr fa_41_2 rfl) ?_
        refine .w (.ld one_23 rfl) ?_
        refine .c (f13_spec o.v o.P) body_13 ?_
        refine .w (.assign rfl) ?_
        refine JO.openD o.P 0 (by repeat (first | exact List.Mem.head _ | refine List.Mem.tail _ ?_)) ?_
        obtain ⟨tx, htx⟩ : ∃ t, (pcAt o.P 0).1 = t := ⟨_, rfl⟩
        obtain ⟨tb, htb⟩ : ∃ t, (pcAt o.P 0).2 = t := ⟨_, rfl⟩
        rw [htx, htb]
        refine .nil (.tn (.seq (.region ?_)))
        refine .w (.move rfl) ?_
        refine .w (.move rfl) ?_
        refine .c (f15A_spec b19 wv mv m hI.ok tx tb) body_15 ?_
        refine .w (.assign rfl) ?_
        refine .nil (.tn (.seq (.region ?_)))
        refine .w (.move rfl) ?_
        refine .w (.nilCheck rfl) ?_
        refine .w (.fieldAddr fa_52_1 rfl) ?_
        refine .w (.ld one_23 rfl) ?_
        refine .w (.move rfl) ?_
        refine .c (f17_spec d2 tx C tb) body_17 ?_
        refine .w (.assign rfl) ?_
        refine .nil (.tn (.seq (.seq (.region ?_))))
        refine .w (.move rfl) ?_
        refine .w (.move rfl) ?_
        refine .w (.as (v' := .bool false) (.bin rfl rfl (BinR.neq_b Try.underlying4)) (congrArg Value.bool (by rw [hI.dn]; simp))) ?_
        refine .nil (.tn ?_)
        refine .cf rfl ?_
        refine .skip (.tn ?_)
        refine .mt (ι := Int × Value × Value × MM B8 Bool × Pcs × Value × Value × Pcs × Pcs) (fun x => Alike x.2.2.1 x.2.2.2.1 x.2.2.2.2.1 x.2.2.2.2.2.2.2.1 x.2.2.2.2.2.2.2.2 ∧ x.2.2.2.2.2.2.2.2.length ≤ 12 * (k + 1)) (fun T x => (9, it x.1) :: (10, it x.1) :: (11, .bool true) :: T) (fun T x => Res.all (pcRes x.2.2.2.2.1) :: Res.all (pcRes x.2.2.2.2.2.2.2.1) :: Res.all (pcRes x.2.2.2.2.2.2.2.2) :: T) (fun T x => Res.cells b19 [x.2.1, x.2.2.1] 39 :: dnR x.2.2.1 x.2.2.2.1 :: Res.row x.2.1 x.2.2.2.2.1.length 24 1 (x.2.2.2.2.1.map Prod.fst) :: Res.cells b21 [x.2.2.2.2.2.1, x.2.2.2.2.2.2.1] 52 :: Res.row x.2.2.2.2.2.1 x.2.2.2.2.2.2.2.1.length 24 1 (x.2.2.2.2.2.2.2.1.map Prod.fst) :: Res.row x.2.2.2.2.2.2.1 x.2.2.2.2.2.2.2.2.length 24 1 (x.2.2.2.2.2.2.2.2.map Prod.fst) :: T) [0, 2, 3, 4, 5, 6, 7, 8, 12, 13, 14, 15, 16, 26, 27, 28, 29, 30, 31, 32, 33, 34, 35, 36, 37, 38, 39, 40, 41, 42, 43, 44, 45, 46, 47, 48, 49, 50, 51, 52, 53, 54, 55, 56, 89, 90, 91, 92, 93, 94, 95, 96, 97, 98, 99, 100, 101, 102, 103, 104, 105, 106, 107, 108, 109, 110, 111, 112, 113, 114, 115, 116, 117, 118] [Res.cells b19 [wv, mv] 39, dnR mv m, Res.row wv A.length 24 1 (A.map Prod.fst), Res.cells b21 [w2, d2] 52, Res.row w2 B.length 24 1 (B.map Prod.fst), Res.row d2 C.length 24 1 (C.map Prod.fst)] ?_ (fun x hx => ?_)
        · refine .seq (.region ?_)
          refine .w (.fieldAddr fa_41_0 rfl) ?_
          refine .w (.ld one_3 rfl) ?_
          refine .nil (.tn (.block (.seq (.region ?_))))
          refine .w (.bin rfl rfl BinR.eql_i) ?_
          refine .w (.assign rfl) ?_
          refine .nil (.tn ?_)
          refine .cn rfl (fun hc5 => ?_) (fun hc5 => ?_)
          · refine .seq (.region ?_)
            refine .w (.move rfl) ?_
            refine .w (.move rfl) ?_
            refine .cb (f12_spec b19 wv mv m hI.ok A (by have := hI.le; omega) tx tb) body_12 ?_ (h0 := by rintro _ _ _ ⟨_, _, _, _, h, _⟩; exact h)
            rintro _ _ ⟨u1, N, hN, rfl, _, rfl⟩
            refine .ap ?_
            refine JO.frzP (by repeat (first | exact Pull.here _ _ | apply Pull.there)) ?_
            refine JO.allOf A N (A ++ N) (by repeat (first | exact List.Mem.head _ | refine List.Mem.tail _ ?_)) (by repeat (first | exact List.Mem.head _ | refine List.Mem.tail _ ?_)) (fun z hz => List.mem_append.1 hz) ?_
            refine .w (.assign rfl) ?_
            refine .nil (.tn (.region ?_))
            refine .w (.move rfl) ?_
            refine .w (.move rfl) ?_
            refine .cb (f19_spec b21 w2 d2 B C (by have := hI.le; have := hI.len; omega) tx tb) body_19 ?_ (h0 := by rintro _ _ _ ⟨_, _, _, _, _, h, _⟩; exact h)
            rintro _ _ ⟨u2, N', hN', hNs, rfl, _, rfl⟩
            refine .ap ?_
            rw [hI.addE]
            have hI2 := hI.add hN hN'
            refine JO.bundle (pcRes [(tx, tb)]) (Subs.sub (by repeat (first | exact Subs.nil _ | apply Subs.cons | exact List.Mem.head _ | refine List.Mem.tail _ ?_))) ?_
            refine JO.allOf B [(tx, tb)] (B ++ N') (by repeat (first | exact List.Mem.head _ | refine List.Mem.tail _ ?_)) (by repeat (first | exact List.Mem.head _ | refine List.Mem.tail _ ?_)) (fun z hz => (List.mem_append.1 hz).imp id fun h => by rw [hNs z h]; exact .head _) ?_
            refine .w (.assign rfl) ?_
            refine .nil (.block_normal ?_)
            first | refine .hd (Proofs.Ytffgimlkmfjgmaa.addE (bytesP A) (wasB m) tb, u1, mv, m, A ++ N, u2, d2, B ++ N', C) ?_ | refine .hd (0, u1, mv1, putsM m (bytesP o.P), delP A (bytesP o.P), u2, u3, notIn (bytesP o.P) B, C ++ o.P) ?_ | refine .hd (0, wv, mv, m, A, w2, d2, B, C) ?_
            exact ⟨by first | exact hI2 | exact hI, by dsimp only; first | omega | (rw [List.length_append]; omega)⟩
          · refine .seq (.region ?_)
            refine .w (.bin rfl rfl BinR.eql_i) ?_
            refine .w (.assign rfl) ?_
            refine .nil (.tn ?_)
            refine .cn rfl (fun hc6 => ?_) (fun hc6 => ?_)
            · refine JC.allOf A A (delP A (bytesP o.P)) (by repeat (first | exact List.Mem.head _ | refine List.Mem.tail _ ?_)) (by repeat (first | exact List.Mem.head _ | refine List.Mem.tail _ ?_)) (fun z hz => .inl (delP_sub z hz)) ?_
              refine JC.allOf B B (notIn (bytesP o.P) B) (by repeat (first | exact List.Mem.head _ | refine List.Mem.tail _ ?_)) (by repeat (first | exact List.Mem.head _ | refine List.Mem.tail _ ?_)) (fun z hz => .inl (List.mem_filter.1 hz).1) ?_
              refine JC.allOf C o.P (C ++ o.P) (by repeat (first | exact List.Mem.head _ | refine List.Mem.tail _ ?_)) (by repeat (first | exact List.Mem.head _ | refine List.Mem.tail _ ?_)) (fun z hz => List.mem_append.1 hz) ?_
              refine JC.draw (.one 0 (.one 1 (.one 2 (.one 4 (.one 5 (.one 6 (.one 3 (.one 7 (.one 8 (.one 9 .nil)))))))))) (fun i => ([3, 7] : List Nat).contains i) (fun i => ([3, 7] : List Nat).contains i) (fun i => ([0, 1, 2, 4, 5, 6, 8, 9] : List Nat).contains i) mixed (by kernel_rfl) (by decide) (by kernel_rfl) ?_
              refine .uw rfl (.move rfl) ?_
              refine .uw rfl (.fieldAddr fa_41_2 rfl) ?_
              refine .uw rfl (.ld one_23 rfl) ?_
              refine .uw rfl (.move rfl) ?_
              refine .uw rfl (.fieldAddr fa_41_2 rfl) ?_
              refine .uw rfl (.ld one_23 rfl) ?_
              refine .mw rfl (.cb (f14A_spec b19 wv mv m hI.ok A (by have := hI.le; omega) o.v o.P) body_14 (h0 := by rintro _ _ _ ⟨_, _, _, _, h, _⟩; exact h)) ?_
              rintro _ _ _ ⟨_, ⟨u1, mv1, hm1, rfl, _, rfl⟩, hΓ, hH⟩
              simp only [List.cons_append, List.nil_append] at hH; subst hΓ hH
              have hI2 := hI.done hm1
              refine kp ?_
              refine .mw rfl (.cb (f20_spec b21 w2 d2 B C (by have := hI.le; have := hI.len; omega) hCl o.v o.P (by omega)) body_20 (h0 := by rintro _ _ _ ⟨_, _, _, h, _⟩; exact h)) ?_
              rintro _ _ _ ⟨_, ⟨u2, u3, rfl, _, rfl⟩, hΓ, hH⟩
              simp only [List.cons_append, List.nil_append] at hH; subst hΓ hH
              refine kp ?_
              refine .uw rfl (.as (v' := .bool true) (.bin rfl rfl BinR.eql_i) (congrArg Value.bool (decide_eq_true (hI.cnt)))) ?_
              refine .uw rfl (.assign rfl) ?_
              refine .nil (.block_normal ?_)
              first | refine .hd (Proofs.Ytffgimlkmfjgmaa.addE (bytesP A) (wasB m) tb, u1, mv, m, A ++ N, u2, d2, B ++ N', C) ?_ | refine .hd (0, u1, mv1, putsM m (bytesP o.P), delP A (bytesP o.P), u2, u3, notIn (bytesP o.P) B, C ++ o.P) ?_ | refine .hd (0, wv, mv, m, A, w2, d2, B, C) ?_
              exact ⟨by first | exact hI2 | exact hI, by dsimp only; first | omega | (rw [List.length_append]; omega)⟩
            · refine .seq (.region ?_)
              refine .w (.bin rfl rfl BinR.eql_i) ?_
              refine .w (.assign rfl) ?_
              refine .nil (.tn ?_)
              refine .cn rfl (fun hc7 => ?_) (fun hc7 => ?_)
              · refine JC.draw (.one 0 (.one 1 (.one 2 (.one 4 (.one 5 (.one 6 (.one 3 (.one 7 (.one 8 (.one 9 .nil)))))))))) (fun i => ([3, 7, 8] : List Nat).contains i) (fun i => ([3, 7, 8] : List Nat).contains i) (fun i => ([0, 1, 2, 4, 5, 6, 9] : List Nat).contains i) mixed (by kernel_rfl) (by decide) (by kernel_rfl) ?_
                refine .uw rfl (.move rfl) ?_
                refine .uw rfl (.fieldAddr fa_41_1 rfl) ?_
                refine .uw rfl (.ld one_3 rfl) ?_
                refine .uw rfl (.move rfl) ?_
                refine .uw rfl (.fieldAddr fa_41_1 rfl) ?_
                refine .uw rfl (.ld one_3 rfl) ?_
                refine .mw rfl (.cb (f18_spec b19 wv mv A o.n (by have := hI.le; omega) hI.sm) body_18 (h0 := by rintro _ _ _ ⟨_, _, h, _⟩; exact h)) ?_
                rintro v83 _ _ ⟨_, ⟨D, hD, _, rfl⟩, hΓ, hH⟩
                simp only [List.cons_append, List.nil_append] at hH; subst hΓ hH
                refine kp ?_
                refine JR.frzP (by repeat (first | exact Pull.here _ _ | apply Pull.there)) ?_
                refine .mw rfl (.c (f21_spec b21 w2 d2 B o.n) body_21) ?_
                rintro _ _ _ ⟨rfl, rfl, rfl⟩
                refine kp ?_
                refine .mw rfl (.c (lists_first v83 w2 D B o.n) body_10) ?_
                rintro _ _ _ ⟨rfl, rfl, rfl⟩
                rw [decide_eq_true (show bytesP D = (bytesP B).take (max 0 (min o.n (B.length : Int))).toNat by rw [hD, hI.ab, hI.len])]
                refine kp ?_
                refine .uw rfl (.assign rfl) ?_
                refine .nil (.block_normal ?_)
                first | refine .hd (Proofs.Ytffgimlkmfjgmaa.addE (bytesP A) (wasB m) tb, u1, mv, m, A ++ N, u2, d2, B ++ N', C) ?_ | refine .hd (0, u1, mv1, putsM m (bytesP o.P), delP A (bytesP o.P), u2, u3, notIn (bytesP o.P) B, C ++ o.P) ?_ | refine .hd (0, wv, mv, m, A, w2, d2, B, C) ?_
                exact ⟨by first | exact hI2 | exact hI, by dsimp only; first | omega | (rw [List.length_append]; omega)⟩
              · refine .skip (.block_normal ?_)
                first | refine .hd (Proofs.Ytffgimlkmfjgmaa.addE (bytesP A) (wasB m) tb, u1, mv, m, A ++ N, u2, d2, B ++ N', C) ?_ | refine .hd (0, u1, mv1, putsM m (bytesP o.P), delP A (bytesP o.P), u2, u3, notIn (bytesP o.P) B, C ++ o.P) ?_ | refine .hd (0, wv, mv, m, A, w2, d2, B, C) ?_
                exact ⟨by first | exact hI2 | exact hI, by dsimp only; first | omega | (rw [List.length_append]; omega)⟩
        · obtain ⟨e3, wv3, mv3, m3, A3, w3, d3, B3, C3⟩ := x
          obtain ⟨hI3, hC3⟩ := hx
          dsimp only at hI3 hC3 ⊢
          refine .seq (.region ?_)
          refine .w (.move rfl) ?_
          refine .cb (f16_spec b19 wv3 mv3 A3 (by have := hI3.le; omega) hI3.sm) body_16 ?_ (h0 := by rintro _ _ _ ⟨_, _, h, _⟩; exact h)
          rintro v90 _ ⟨D, hD, _, rfl⟩
          refine .ap ?_
          refine JO.frzP (by repeat (first | exact Pull.here _ _ | apply Pull.there)) ?_
          refine .w (.assign rfl) ?_
          refine .nil (.tn (.seq (.region ?_)))
          refine .w (.move rfl) ?_
          refine .c (f22_spec b19 wv3 mv3 A3) body_22 ?_
          refine .w (.assign rfl) ?_
          refine .nil (.tn (.seq (.region ?_)))
          refine .w (.move rfl) ?_
          refine .w (.as (v' := .bool false) (.not rfl) rfl) ?_
          refine .w (.move rfl) ?_
          refine .gt (g := 95) rfl rfl rfl ?_
          refine .w (.move rfl) ?_
          refine .gt (g := 95) rfl rfl rfl ?_
          refine .w (.move rfl) ?_
          refine .gt (g := 95) rfl rfl rfl ?_
          refine .w (.as (v' := .bool false) (.bin rfl rfl BinR.neq_i) (congrArg Value.bool (by simp))) ?_
          refine .w (.pick0 rfl rfl rfl) ?_
          refine .w (.move rfl) ?_
          refine .gt (g := 100) rfl rfl rfl ?_
          refine .w (.move rfl) ?_
          refine .gt (g := 100) rfl rfl rfl ?_
          refine .w (.move rfl) ?_
          refine .gt (g := 100) rfl rfl rfl ?_
          refine .w (.nilCheck rfl) ?_
          refine .gt (g := 100) rfl rfl rfl ?_
          refine .w (.fieldAddr fa_52_0 rfl) ?_
          refine .gt (g := 100) rfl rfl rfl ?_
          refine .w (.ld one_23 rfl) ?_
          refine .gt (g := 100) rfl rfl rfl ?_
          refine .c (f10_spec v90 w3 D B3) body_10 ?_
          rw [decide_eq_true (show bytesP D = bytesP B3 by rw [hD, hI3.ab])]
          refine .gt (g := 100) rfl rfl rfl ?_
          refine .w (.as (v' := .bool false) (.not rfl) rfl) ?_
          refine .w (.pick0 rfl rfl rfl) ?_
          refine .w (.move rfl) ?_
          refine .gt (g := 109) rfl rfl rfl ?_
          refine .w (.move rfl) ?_
          refine .gt (g := 109) rfl rfl rfl ?_
          refine .w (.move rfl) ?_
          refine .gt (g := 109) rfl rfl rfl ?_
          refine .w (.nilCheck rfl) ?_
          refine .gt (g := 109) rfl rfl rfl ?_
          refine .w (.fieldAddr fa_52_0 rfl) ?_
          refine .gt (g := 109) rfl rfl rfl ?_
          refine .w (.ld one_23 rfl) ?_
          refine .gt (g := 109) rfl rfl rfl ?_
          refine .w (.len Try.underlying23 rfl) ?_
          refine .gt (g := 109) rfl rfl rfl ?_
          refine .w (.as (v' := .bool false) (.bin rfl rfl BinR.neq_i) (congrArg Value.bool (decide_eq_false (by have := hI3.len; omega)))) ?_
          refine .w (.pick0 rfl rfl rfl) ?_
          refine .nil (.tn ?_)
          refine .cf rfl ?_
          refine .skip (.block_normal (.tn (.region ?_)))
          refine .w (.move rfl) ?_
          refine .w (.bin rfl rfl (BinR.add_i (by first | (constructor <;> omega) | (constructor <;> simp <;> omega)))) ?_
          refine .w (.assign rfl) ?_
          refine .nil ?_
          refine .hd (k + 1, wv3, mv3, m3, A3, w3, d3, B3, C3) ?_
          exact ⟨⟨by dsimp only; omega, hI3, hC3⟩, by dsimp only; omega⟩
    · refine .exit (.then_exit (.then_exit (.block_exit (.tn (.seq (.region ?_))))))
      refine .w (.move rfl) ?_
      refine .w (.assign rfl) ?_
      refine .nil (.tn (.ret ?_))
      exact .dn [] [] (res1 rfl (.tmp rfl)) ⟨rfl, rfl, rfl⟩
end Go.Proofs.Ytffgimlkmfjgmaa
