/- Walks: Pack, Unpack, awake. -/
import Derived.Test.YtffgimlkmfjgmaaDoorP1
import Derived.Test.YtffgimlkmfjgmaaDoorP17p
namespace Go.Proofs.YtffgimlkmfjgmaaDoor
open Go.RowKit
set_option maxRecDepth 100000
set_option linter.unusedVariables false
set_option linter.unusedSimpArgs false
theorem f6_spec (h : BitVec 64) (u : Value) (L : Pcs) :
    Spec Tryd.prog 6 #[(u64 h), u] [Res.rd u L.length 1 (L.map Prod.fst), Res.all (pcRes L)] []
      (fun r Γ' H' => ∃ v, r = .tuple #[v, it (packE (bytesP L))] ∧ Γ' = [] ∧ H' = [Res.row v ((packO h (bytesP L))).length 5 1 (((packO h (bytesP L))).map u8)]) := by
  refine Spec.of_args Tryd.func6 rfl Tryd.ntmps6 (by simp) fun w => ?_
  refine JC.know (φ := L.length ≤ 9223372036854775807) (fun w hs => by obtain ⟨_, _, _, _, _, _, h⟩ := hs.rdForm (.head _); unfold maxLen at h; omega) fun hla => ?_
  have hbl := bytesP_len L
  have hs1 := smallB_le h
  have hs2 := smallB_le (BitVec.ofNat 64 L.length)
  refine .seq (.region ?_)
  refine .w (.assign rfl) ?_
  refine .w (.assign rfl) ?_
  refine .nil (.tn (.seq (.block (.seq (.region ?_)))))
  refine .w (.move rfl) ?_
  refine .w (.len Tryd.underlying23 rfl) ?_
  refine .w (.bin rfl rfl BinR.gtr_i) ?_
  refine .join 4 16 (.bool (decide (L.length > 10 ∨ hasP unfit (bytesP L) = true))) ?_ ?_
  · refine .w (.move rfl) ?_
    refine .gn (g := 12) rfl (fun hg7 hg7' => ?_) (fun hg7 hg7' => ?_)
    · refine .gf (g := 13) rfl rfl hg7 (by decide) ?_
      refine .gf (g := 13) rfl rfl hg7 (by decide) ?_
      refine .w (.pick1 rfl hg7 rfl) ?_
      refine .nil ?_
      refine .head () (by first | (refine ⟨by first | rfl | exact congrArg (fun b => some (Value.bool b)) (decide_eq_true (.inl (by omega))).symm | exact congrArg (fun b => some (Value.bool b)) (by rw [Bool.eq_iff_iff, decide_eq_true_eq]; exact ⟨.inr, fun h => h.resolve_left (by omega)⟩), ?_⟩; repeat (first | exact trivial | refine ⟨rfl, ?_⟩))) (fun _ h => h) (Picks.perm (by repeat (first | exact Picks.nil _ | apply Picks.cons | exact Pull.here _ _ | apply Pull.there))) ?_
      trivial
    · refine .gt (g := 13) rfl rfl hg7 ?_
      refine .w (.move rfl) ?_
      refine .gt (g := 13) rfl rfl hg7 ?_
      refine .c (f17Fit_spec u L) body_17 ?_
      refine .w (.pick0 rfl hg7 rfl) ?_
      refine .nil ?_
      refine .head () (by first | (refine ⟨by first | rfl | exact congrArg (fun b => some (Value.bool b)) (decide_eq_true (.inl (by omega))).symm | exact congrArg (fun b => some (Value.bool b)) (by rw [Bool.eq_iff_iff, decide_eq_true_eq]; exact ⟨.inr, fun h => h.resolve_left (by omega)⟩), ?_⟩; repeat (first | exact trivial | refine ⟨rfl, ?_⟩))) (fun _ h => h) (Picks.perm (by repeat (first | exact Picks.nil _ | apply Picks.cons | exact Pull.here _ _ | apply Pull.there))) ?_
      trivial
  · refine .w (.assign rfl) ?_
    refine .nil (.tn ?_)
    refine .cn rfl (fun hc1 => ?_) (fun hc1 => ?_)
    · refine .seq (.region ?_)
      refine JO.nilRow 5 1 ?_
      refine .w (.assign rfl) ?_
      refine .w (.assign rfl) ?_
      refine .nil (.tn (.ret (.block_ret (.then_ret ?_))))
      have he : (packE (bytesP L)) = 2 := by rw [packE, if_pos (by rw [hbl]; exact hc1)]
      exact .dn [] [Res.row (.slice none 0 0) 0 5 1 []] (res2 rfl (.tmp rfl) (.tmp rfl)) ⟨_, (by rw [he]), rfl, (by rw [packO, if_neg (by rw [he]; decide)]; rfl)⟩
    · have hfit := fit_all fun h1 => hc1 (.inr h1)
      have hl10 : ¬ L.length > 10 := fun h1 => hc1 (.inl h1)
      refine .seq (.region ?_)
      refine .w (.move rfl) ?_
      refine .c (f20_spec u L) body_20 ?_
      refine .w (.assign rfl) ?_
      refine .nil (.tn ?_)
      refine .cn rfl (fun hc2 => ?_) (fun hc2 => ?_)
      · refine .seq (.region ?_)
        refine JO.nilRow 5 1 ?_
        refine .w (.assign rfl) ?_
        refine .w (.assign rfl) ?_
        refine .nil (.tn (.ret (.block_ret (.then_ret ?_))))
        have he : (packE (bytesP L)) = 13 := by rw [packE, if_neg (by rw [hbl]; exact hc1), if_pos (by simpa using hc2)]
        exact .dn [] [Res.row (.slice none 0 0) 0 5 1 []] (res2 rfl (.tmp rfl) (.tmp rfl)) ⟨_, (by rw [he]), rfl, (by rw [packO, if_neg (by rw [he]; decide)]; rfl)⟩
      · have he0 : (packE (bytesP L)) = 0 := by rw [packE, if_neg (by rw [hbl]; exact hc1), if_neg (by simpa using hc2)]
        refine .skip (.block_normal (.tn (.seq (.region ?_))))
        refine JO.nilRow 5 1 ?_
        refine .al zero_48 fun b6 => ?_
        refine .nil (.tn (.seq (.region ?_)))
        refine .w (.move rfl) ?_
        refine .cb (f21_spec b6 (.slice none 0 0) [] (by decide) h) body_21 ?_ (h0 := by rintro _ _ _ ⟨_, _, h, _⟩; exact h)
        rintro _ _ ⟨w1, rfl, _, rfl⟩
        refine .ap ?_
        rw [List.nil_append]
        refine .nil (.tn (.seq (.region ?_)))
        refine .w (.move rfl) ?_
        refine .w (.len Tryd.underlying23 rfl) ?_
        refine .w (.as (v' := u64 (BitVec.ofNat 64 L.length)) (.conv_i_u64 Tryd.underlying3 Tryd.underlying22 rfl) (congrArg u64 (BitVec.ofInt_natCast _ _))) ?_
        refine .cb (f21_spec b6 w1 (smallB h) (by omega) (BitVec.ofNat 64 L.length)) body_21 ?_ (h0 := by rintro _ _ _ ⟨_, _, h, _⟩; exact h)
        rintro _ _ ⟨w2, rfl, _, rfl⟩
        refine .ap ?_
        refine .nil (.tn (.seq (.seq (.region ?_))))
        refine .w (.move rfl) ?_
        refine .w (.len Tryd.underlying23 rfl) ?_
        refine .w (.move rfl) ?_
        refine .nil (.tn (.block ?_))
        refine .lp (ι := Nat × Value) (fun x => x.1 ≤ L.length) (fun T x => (28, it (x.1 : Int)) :: T) (fun T _ => T) (fun T x => Res.cells b6 [x.2] 48 :: Res.row x.2 ((smallB h ++ smallB (BitVec.ofNat 64 L.length) ++ ((bytesP L).take x.1).flatMap bytesB)).length 5 1 (((smallB h ++ smallB (BitVec.ofNat 64 L.length) ++ ((bytesP L).take x.1).flatMap bytesB)).map u8) :: T) (fun x => L.length - x.1) (0, w2) [4, 5, 6, 26, 27, 35] ?_ (fun x hx => ?_) (hH := (by dsimp only; rw [List.take_zero, List.flatMap_nil, List.append_nil]; repeat (first | exact Picks.nil _ | apply Picks.cons | exact Pull.here _ _ | apply Pull.there)))
        · exact Nat.zero_le _
        obtain ⟨k, w⟩ := x
        have hk : k ≤ L.length := hx
        dsimp only
        refine .seq (.region ?_)
        refine .w (.bin rfl rfl BinR.lss_i) ?_
        refine .nil (.tn (.seq ?_))
        refine .cn rfl (fun hc3 => ?_) (fun hc3 => ?_)
        · refine .skip (.tn (.seq (.block (.seq (.region ?_)))))
          refine JO.open (r := Res.rd (pcAt L k).1 (pcAt L k).2.length 1 ((pcAt L k).2.map u8)) (by repeat (first | exact List.Mem.head _ | refine List.Mem.tail _ ?_)) (pc_res (by omega)) ?_
          refine .w (.ix1 Tryd.underlying23 sz_24 rfl rfl) ?_
          refine .w (.ld one_24 rfl (hj := by first | exact pc_get (by omega) | rfl | exact tab_get (by first | omega | (simp; omega)) | exact gm (d := 0) (by first | omega | (simp; omega)))) ?_
          refine .w (.assign rfl) ?_
          refine .nil (.tn (.region ?_))
          refine .w (.move rfl) ?_
          refine .cb (f22_spec b6 w (smallB h ++ smallB (BitVec.ofNat 64 L.length) ++ ((bytesP L).take k).flatMap bytesB) (by have := flatB_le (l := (bytesP L).take k) (fun b hb => (hfit b (List.mem_of_mem_take hb)).2); rw [List.length_take] at this; rw [List.length_append, List.length_append]; omega) (pcAt L k).1 (pcAt L k).2 (by have := (hfit _ (List.mem_map.2 ⟨_, pc_mem (l := L) (k := k) (by omega), rfl⟩)).2; omega)) body_22 ?_ (h0 := by rintro _ _ _ ⟨_, _, h, _⟩; exact h)
          rintro _ _ ⟨w3, rfl, _, rfl⟩
          refine .ap ?_
          rw [show (smallB h ++ smallB (BitVec.ofNat 64 L.length) ++ ((bytesP L).take k).flatMap bytesB) ++ bytesB (pcAt L k).2 = (smallB h ++ smallB (BitVec.ofNat 64 L.length) ++ ((bytesP L).take (k + 1)).flatMap bytesB) from by rw [bytesP_get (by omega), List.flatMap_append]; simp]
          refine .nil (.block_normal (.tn (.region ?_)))
          refine .w (.bin rfl rfl (BinR.add_i (by first | (constructor <;> omega) | (constructor <;> simp <;> omega)))) ?_
          refine .w (.move rfl) ?_
          refine .nil ?_
          refine .hd (k + 1, w3) ?_
          exact ⟨by dsimp only; omega, by dsimp only; omega⟩
        · have he : k = L.length := by omega
          subst he
          rw [show (bytesP L).take L.length = bytesP L from List.take_of_length_le (by omega), show smallB h ++ smallB (BitVec.ofNat 64 L.length) ++ (bytesP L).flatMap bytesB = packB h (bytesP L) from by rw [packB, hbl]]
          refine .exit (.then_exit (.then_exit (.block_exit (.tn (.seq (.region ?_))))))
          refine .cb (f23_spec b6 w (packB h (bytesP L)) (by have := packB_len (h := h) (l := bytesP L) (by omega) (fun b hb => (hfit b hb).2); omega)) body_23 ?_
          rintro v35 _ ⟨_, _, rfl⟩
          refine .ap ?_
          refine .w (.assign rfl) ?_
          refine .w (.assign rfl) ?_
          refine .nil (.tn (.ret ?_))
          exact .dn [] [Res.row v35 (packB h (bytesP L)).length 5 1 ((packB h (bytesP L)).map u8)] (res2 rfl (.tmp rfl) (.tmp rfl)) ⟨v35, (by rw [he0]), rfl, (by rw [packO, if_pos he0])⟩

theorem f8_spec (u : Value) (b : B8) (hb : b.length ≤ 1000000) :
    Spec Tryd.prog 8 #[u] [Res.rd u b.length 1 (b.map u8)] []
      (fun r Γ' H' => ∃ v N, bytesP N = unL b ∧ r = .tuple #[u64 (unH b), v, it (unE b)] ∧ Γ' = [Res.all (pcRes N)] ∧ H' = [Res.row v N.length 24 1 (N.map Prod.fst)]) := by
  refine Spec.of_args Tryd.func8 rfl Tryd.ntmps8 (by simp) fun w => ?_
  have hn10 := unN_le b
  have hb1 := Rdr.smA_b (Rdr.mk b 0) mx
  have hb2 := Rdr.smA_b ((Rdr.mk b 0).smA mx) 10#64
  dsimp only at hb1
  refine .seq (.region ?_)
  refine .w (.assign rfl) ?_
  refine JO.nilRow 24 1 ?_
  refine JO.sp0 ?_
  refine .w (.assign rfl) ?_
  refine .w (.assign rfl) ?_
  refine .nil (.tn (.seq (.region ?_)))
  refine .w (.move rfl) ?_
  refine .cb (f27_spec u b) body_27 ?_ (h0 := by rintro _ _ _ ⟨_, _, h, _⟩; exact h)
  rintro _ _ ⟨p, rfl, _, rfl⟩
  refine .ap ?_
  refine .w (.assign rfl) ?_
  refine .nil (.tn (.seq (.region ?_)))
  refine .w (.move rfl) ?_
  refine .cs (f28_spec p u (Rdr.mk b 0) mx) body_28 ?_
  rintro _ _ _ ⟨v1, rfl, rfl, rfl⟩
  refine .ap ?_
  refine .ap ?_
  refine .w (.assign rfl) ?_
  refine .nil (.tn (.seq (.seq (.region ?_))))
  refine .w (.move rfl) ?_
  refine .cs (f28_spec p v1 ((Rdr.mk b 0).smA mx) 10#64) body_28 ?_
  rintro _ _ _ ⟨v2, rfl, rfl, rfl⟩
  refine .ap ?_
  refine .ap ?_
  refine .w (.move rfl) ?_
  refine .nil (.tn (.block ?_))
  refine .lp (ι := (Nat × Pcs) × Rdr × Value × Value) (fun x => x.1.1 ≤ unN b ∧ x.1.2.length = x.1.1 ∧ x.2.1.b.length ≤ 1000000 ∧ Rdr.goB (unN b - x.1.1) (bytesP x.1.2) x.2.1 = unG b) (fun T x => (3, x.2.2.1) :: (12, u64 (BitVec.ofNat 64 x.1.1)) :: T) (fun T x => Res.rd x.2.2.2 x.2.1.b.length 1 (x.2.1.b.map u8) :: T) (fun T x => Res.cells p [x.2.2.2, it x.2.1.e] 75 :: Res.row x.2.2.1 x.1.2.length 24 1 (x.1.2.map Prod.fst) :: Res.sep (rowsP x.1.2 5) :: T) (fun x => unN b - x.1.1) ((0, []), unR b, .slice none 0 0, v2) [2, 4, 5, 11, 20, 21, 22, 23, 24, 25, 26, 27, 28, 29, 30, 31, 32, 33, 34, 35, 36, 37] ?_ (fun x hx => ?_)
  · exact ⟨Nat.zero_le _, rfl, by show (unR b).b.length ≤ 1000000; unfold unR; omega, rfl⟩
  obtain ⟨⟨k, N⟩, rk, v5, v'⟩ := x
  obtain ⟨hk, hNl, hrb, hgo⟩ := hx
  dsimp only at hk hNl hrb hgo ⊢
  have hbb := Rdr.byA_b rk 1000
  refine .seq (.region ?_)
  refine .w (.bin rfl rfl (BinR.lss_u64)) ?_
  refine .nil (.tn (.seq ?_))
  refine .cn rfl (fun hc1 => ?_) (fun hc1 => ?_)
  · have hck : k < unN b := by unfold unN mx; have h1 := hc1; rw [BitVec.toNat_ofNat, Nat.mod_eq_of_lt (by omega)] at h1; exact h1
    refine .skip (.tn (.seq (.block (.region ?_))))
    refine .w (.move rfl) ?_
    refine .w (.move rfl) ?_
    refine .cs (f29_spec p v' rk 1000 (by omega)) body_29 ?_
    rintro v16 _ _ ⟨v3, _, rfl, rfl⟩
    refine .ap ?_
    refine .ap ?_
    refine JO.know (φ := v16.oneCell' = true) (fun w hs => (by obtain ⟨A, c, rfl, _⟩ := row_rd (by decide) (Res.row_ok.1 (hs.hok _ (.head _))); rfl)) fun hv16 => ?_
    refine .l1 Tryd.underlying23 info_24 (fun v17 => ?_) (h1 := (one_sing hv16))
    refine .ap Tryd.underlying23 info_24 (fun v18 => ?_) (hone := (one_sing hv16))
    rw [snoc_row (b := rk.byO 1000)]
    refine .w (.assign rfl) ?_
    refine .nil (.block_normal (.tn (.region ?_)))
    refine .w (.as (v' := u64 (BitVec.ofNat 64 (k + 1))) (.bin rfl rfl (BinR.add_u64 (b := 1#64))) (congrArg u64 (by apply BitVec.eq_of_toNat_eq; simp))) ?_
    refine .w (.move rfl) ?_
    refine .nil ?_
    refine .rs (A := [Res.row v16 (rk.byO 1000).length 5 1 ((rk.byO 1000).map u8)]) (B := rowsP N 5) (L := rowsP (N ++ [(v16, rk.byO 1000)]) 5) (by simp [rowsP]) ?_
    refine .hd ((k + 1, N ++ [(v16, rk.byO 1000)]), rk.byA 1000, v18, v3) ?_
    refine ⟨⟨by dsimp only; omega, by simp [hNl], by dsimp only; omega, ?_⟩, by dsimp only; omega⟩
    dsimp only
    rw [← hgo, show unN b - k = (unN b - (k + 1)) + 1 by omega, Rdr.goB]
    simp [bytesP]
  · have hck : k = unN b := by have h1 := hc1; rw [BitVec.toNat_ofNat, Nat.mod_eq_of_lt (by omega)] at h1; have h2 : ¬ k < unN b := h1; omega
    subst hck
    rw [Nat.sub_self] at hgo
    refine .exit (.then_exit (.then_exit (.block_exit (.tn (.seq (.region ?_))))))
    have hun : unG b = (bytesP N, rk) := hgo.symm
    refine JO.frzP (by repeat (first | exact Pull.here _ _ | apply Pull.there)) ?_
    refine JO.nilRd 1 ?_
    refine .w (.move rfl) ?_
    refine .c (f30_spec p v' rk) body_30 ?_
    refine .w (.assign rfl) ?_
    refine .nil (.tn ?_)
    refine .mt (ι := Unit) (fun x => True) (fun T x => (4, it (unE b)) :: T) (fun T _ => T) (fun T _ => T) [2, 3, 33, 34, 35, 36, 37] [] ?_ (fun x hx => ?_)
    · refine .seq (.region ?_)
      refine JO.env [(2, u64 ((Rdr.mk b 0).sm mx)), (3, v5), (4, it rk.fin), (5, ptr p 0)] (by repeat (first | exact trivial | refine ⟨by first | rfl | (simp; done), ?_⟩)) ?_
      refine .w (.move rfl) ?_
      refine .w (.bin rfl rfl BinR.eql_i) ?_
      refine .join 9 32 (.bool (decide (rk.fin = 0 ∧ (twB (bytesP N) = true ∨ hasP (isB []) (bytesP N) = true)))) ?_ ?_
      · refine .w (.move rfl) ?_
        refine .gn (g := 23) rfl (fun hg28 hg28' => ?_) (fun hg28 hg28' => ?_)
        · refine .gt (g := 24) rfl rfl hg28 ?_
          refine .w (.move rfl) ?_
          refine .gt (g := 24) rfl rfl hg28 ?_
          refine .c (f20_spec v5 N) body_20 ?_
          refine .gt (g := 24) rfl rfl hg28 ?_
          refine .w (.move rfl) ?_
          refine .gn (g := 26) rfl (fun hg31 hg31' => ?_) (fun hg31 hg31' => ?_)
          · refine .gf (g := 27) rfl rfl hg31 (by decide) ?_
            refine .gf (g := 27) rfl rfl hg31 (by decide) ?_
            refine .gf (g := 27) rfl rfl hg31 (by decide) ?_
            refine .gt (g := 24) rfl rfl hg28 ?_
            refine .w (.pick1 rfl hg31 rfl) ?_
            refine .w (.pick1 rfl hg28 rfl) ?_
            refine .nil ?_
            refine .head () (by first | (refine ⟨by first | rfl | exact congrArg (fun b => some (Value.bool b)) (by first | exact (decide_eq_true (by omega)).symm | exact (decide_eq_false (by omega)).symm | exact decide_eq_decide.2 (by omega)) | (simp [*]; done) | (show some _ = some _; simp [*]; done), ?_⟩; repeat (first | exact trivial | refine ⟨rfl, ?_⟩))) (fun _ h => h) (Picks.perm (by repeat (first | exact Picks.nil _ | apply Picks.cons | exact Pull.here _ _ | apply Pull.there))) ?_
            trivial
          · refine .gt (g := 27) rfl rfl hg31 ?_
            refine .w (.move rfl) ?_
            refine .gt (g := 27) rfl rfl hg31 ?_
            refine .cb (f31_spec (.slice none 0 0) rfl) body_31 ?_ (h0 := by rintro _ _ _ ⟨_, _, h, _⟩; exact h)
            rintro _ _ ⟨q, rfl, _, rfl⟩
            refine .ap ?_
            refine .gt (g := 27) rfl rfl hg31 ?_
            refine .c (f17Is_spec v5 N q (.slice none 0 0) []) body_17 ?_
            refine .gt (g := 24) rfl rfl hg28 ?_
            refine .w (.pick0 rfl hg31 rfl) ?_
            refine .w (.pick1 rfl hg28 rfl) ?_
            refine .nil ?_
            refine .head () (by first | (refine ⟨by first | rfl | exact congrArg (fun b => some (Value.bool b)) (by first | exact (decide_eq_true (by omega)).symm | exact (decide_eq_false (by omega)).symm | exact decide_eq_decide.2 (by omega)) | (simp [*]; done) | (show some _ = some _; simp [*]; done), ?_⟩; repeat (first | exact trivial | refine ⟨rfl, ?_⟩))) (fun _ h => h) (Picks.perm (by repeat (first | exact Picks.nil _ | apply Picks.cons | exact Pull.here _ _ | apply Pull.there))) ?_
            trivial
        · refine .gf (g := 24) rfl rfl hg28 (by decide) ?_
          refine .gf (g := 24) rfl rfl hg28 (by decide) ?_
          refine .gf (g := 24) rfl rfl hg28 (by decide) ?_
          refine .gu (g := 27) rfl rfl (by decide) ?_
          refine .gu (g := 27) rfl rfl (by decide) ?_
          refine .gu (g := 27) rfl rfl (by decide) ?_
          refine .gf (g := 24) rfl rfl hg28 (by decide) ?_
          refine .w (.pick0 rfl hg28 rfl) ?_
          refine .nil ?_
          refine .head () (by first | (refine ⟨by first | rfl | exact congrArg (fun b => some (Value.bool b)) (by first | exact (decide_eq_true (by omega)).symm | exact (decide_eq_false (by omega)).symm | exact decide_eq_decide.2 (by omega)) | (simp [*]; done) | (show some _ = some _; simp [*]; done), ?_⟩; repeat (first | exact trivial | refine ⟨rfl, ?_⟩))) (fun _ h => h) (Picks.perm (by repeat (first | exact Picks.nil _ | apply Picks.cons | exact Pull.here _ _ | apply Pull.there))) ?_
          trivial
      · refine .nil (.tn ?_)
        refine .cn rfl (fun hc2 => ?_) (fun hc2 => ?_)
        · refine .region ?_
          refine .w (.assign rfl) ?_
          refine .nil ?_
          refine .hd () ?_ (hE := (by refine ⟨congrArg (fun z => some (it z)) (by rw [unE, hun]; first | exact (if_pos hc2).symm | exact (if_neg hc2).symm), ?_⟩; repeat (first | exact trivial | refine ⟨rfl, ?_⟩)))
          trivial
        · refine .skip ?_
          refine .hd () ?_ (hE := (by refine ⟨congrArg (fun z => some (it z)) (by rw [unE, hun]; first | exact (if_pos hc2).symm | exact (if_neg hc2).symm), ?_⟩; repeat (first | exact trivial | refine ⟨rfl, ?_⟩)))
          trivial
    · obtain ⟨⟩ := x
      refine .seq (.seq (.region ?_))
      refine .w (.move rfl) ?_
      refine .w (.bin rfl rfl BinR.neq_i) ?_
      refine .nil (.tn ?_)
      refine .cn rfl (fun hc3 => ?_) (fun hc3 => ?_)
      · refine .seq (.region ?_)
        refine JO.nilRow 24 1 ?_
        refine JO.all0 ?_
        refine .w (.move rfl) ?_
        refine .w (.assign rfl) ?_
        refine .w (.assign rfl) ?_
        refine .w (.assign rfl) ?_
        refine .nil (.tn (.ret (.then_ret ?_)))
        exact .dn [Res.all (pcRes [])] [Res.row (.slice none 0 0) 0 24 1 []] (res3 rfl (.tmp rfl) (.tmp rfl) (.tmp rfl)) ⟨.slice none 0 0, [], (by rw [unL, if_neg hc3]; rfl), (by rw [unH, if_neg hc3]; rfl), rfl, rfl⟩
      · refine .skip (.tn (.seq (.region ?_)))
        refine .w (.move rfl) ?_
        refine .w (.move rfl) ?_
        refine .w (.assign rfl) ?_
        refine .w (.assign rfl) ?_
        refine .w (.assign rfl) ?_
        refine .nil (.tn (.ret ?_))
        have he : unE b = 0 := hc3
        exact .dn [Res.all (pcRes N)] [Res.row v5 N.length 24 1 (N.map Prod.fst)] (res3 rfl (.tmp rfl) (.tmp rfl) (.tmp rfl)) ⟨v5, N, (by rw [unL, if_pos he, hun]), (by rw [unH, if_pos he, he]), rfl, rfl⟩

set_option maxHeartbeats 1000000 in
theorem f4_spec  :
    Spec Tryd.prog 4 #[] [] []
      (fun r Γ' H' => r = .bool true ∧ Γ' = [] ∧ H' = []) := by
  refine Spec.of_args Tryd.func4 rfl Tryd.ntmps4 (by simp) fun w => ?_
  refine .seq (.region ?_)
  refine .w (.assign rfl) ?_
  refine .nil (.tn (.seq (.region ?_)))
  refine .w (.as (v' := .agg #[.slice none 0 0, .map none]) (.bd bld_41 (hf := .nil _)) rfl) ?_
  refine .bx fun b15 => ?_
  rw [show (Value.agg #[Value.slice none 0 0, .map none]).cells.toList = [.slice none 0 0, .map none] from rfl]
  refine JO.nilRow 24 1 ?_
  refine JO.sp0 ?_
  refine JO.all0 ?_
  refine .w (.assign rfl) ?_
  refine .nil (.tn (.seq (.region ?_)))
  refine .w (.move rfl) ?_
  refine .l1 Tryd.underlying24 info_5 (fun v17 => ?_)
  refine .cb (f14_spec b15 (.slice none 0 0) (.map none) MM.nil (.inl ⟨rfl, rfl⟩) [] (by rw [← bytesP_len, show bytesP [] = [] from rfl]; decide) v17 [97#8]) body_14 ?_ (h0 := by rintro _ _ _ ⟨_, _, _, _, h, _⟩; exact h)
  rintro _ _ ⟨w1, N1, hN1, rfl, _, rfl⟩
  refine .ap ?_
  rw [show bytesP [] = [] from rfl, show addN [] (wasB MM.nil) [97#8] = [[97#8]] from by decide] at hN1
  rw [show bytesP [] = [] from rfl, show addE [] (wasB MM.nil) [97#8] = 0 from by decide]
  refine JO.frzP (by repeat (first | exact Pull.here _ _ | apply Pull.there)) ?_
  refine JO.allOf [] N1 ([] ++ N1) (by repeat (first | exact List.Mem.head _ | refine List.Mem.tail _ ?_)) (by repeat (first | exact List.Mem.head _ | refine List.Mem.tail _ ?_)) (fun z hz => List.mem_append.1 hz) ?_
  obtain ⟨A1, hA1⟩ : ∃ X, [] ++ N1 = X := ⟨_, rfl⟩
  rw [hA1]
  have hBA1 : bytesP A1 = [[97#8]] := by rw [← hA1, show bytesP ([] ++ N1) = bytesP [] ++ bytesP N1 from List.map_append, show bytesP [] = [] from rfl, hN1]; rfl
  refine .w (.assign rfl) ?_
  refine .nil (.tn (.seq (.region ?_)))
  refine .w (.move rfl) ?_
  refine .l1 Tryd.underlying24 info_5 (fun v20 => ?_)
  refine .cb (f14_spec b15 w1 (.map none) MM.nil (.inl ⟨rfl, rfl⟩) A1 (by rw [← bytesP_len, hBA1]; decide) v20 [98#8]) body_14 ?_ (h0 := by rintro _ _ _ ⟨_, _, _, _, h, _⟩; exact h)
  rintro _ _ ⟨w2, N2, hN2, rfl, _, rfl⟩
  refine .ap ?_
  rw [hBA1, show addN [[97#8]] (wasB MM.nil) [98#8] = [[98#8]] from by decide] at hN2
  rw [hBA1, show addE [[97#8]] (wasB MM.nil) [98#8] = 0 from by decide]
  refine JO.frzP (by repeat (first | exact Pull.here _ _ | apply Pull.there)) ?_
  refine JO.allOf A1 N2 (A1 ++ N2) (by repeat (first | exact List.Mem.head _ | refine List.Mem.tail _ ?_)) (by repeat (first | exact List.Mem.head _ | refine List.Mem.tail _ ?_)) (fun z hz => List.mem_append.1 hz) ?_
  obtain ⟨A2, hA2⟩ : ∃ X, A1 ++ N2 = X := ⟨_, rfl⟩
  rw [hA2]
  have hBA2 : bytesP A2 = [[97#8], [98#8]] := by rw [← hA2, show bytesP (A1 ++ N2) = bytesP A1 ++ bytesP N2 from List.map_append, hBA1, hN2]; rfl
  refine .w (.assign rfl) ?_
  refine .nil (.tn (.seq (.region ?_)))
  refine .w (.move rfl) ?_
  refine .l1 Tryd.underlying24 info_5 (fun v23 => ?_)
  refine .cb (f14_spec b15 w2 (.map none) MM.nil (.inl ⟨rfl, rfl⟩) A2 (by rw [← bytesP_len, hBA2]; decide) v23 [97#8]) body_14 ?_ (h0 := by rintro _ _ _ ⟨_, _, _, _, h, _⟩; exact h)
  rintro _ _ ⟨w3, N3, hN3, rfl, _, rfl⟩
  refine .ap ?_
  rw [hBA2, show addN [[97#8], [98#8]] (wasB MM.nil) [97#8] = [] from by decide] at hN3
  rw [hBA2, show addE [[97#8], [98#8]] (wasB MM.nil) [97#8] = 13 from by decide]
  refine JO.frzP (by repeat (first | exact Pull.here _ _ | apply Pull.there)) ?_
  refine JO.allOf A2 N3 (A2 ++ N3) (by repeat (first | exact List.Mem.head _ | refine List.Mem.tail _ ?_)) (by repeat (first | exact List.Mem.head _ | refine List.Mem.tail _ ?_)) (fun z hz => List.mem_append.1 hz) ?_
  obtain ⟨A3, hA3⟩ : ∃ X, A2 ++ N3 = X := ⟨_, rfl⟩
  rw [hA3]
  have hBA3 : bytesP A3 = [[97#8], [98#8]] := by rw [← hA3, show bytesP (A2 ++ N3) = bytesP A2 ++ bytesP N3 from List.map_append, hBA2, hN3]; rfl
  refine .w (.assign rfl) ?_
  refine .nil (.tn (.seq (.region ?_)))
  refine .w (.move rfl) ?_
  refine .cb (f15_spec b15 w3 (.map none) A3 1 (by rw [← bytesP_len, hBA3]; decide) (fun b hb => by rw [hBA3] at hb; revert b; decide)) body_15 ?_ (h0 := by rintro _ _ _ ⟨_, _, h, _⟩; exact h)
  rintro v26 _ ⟨B1, hB1, _, rfl⟩
  refine .ap ?_
  rw [show (bytesP A3).take (max 0 (min 1 (A3.length : Int))).toNat = [[97#8]] from by rw [← bytesP_len, hBA3]; decide] at hB1
  refine JO.frzP (by repeat (first | exact Pull.here _ _ | apply Pull.there)) ?_
  refine .w (.assign rfl) ?_
  refine .nil (.tn (.seq (.region ?_)))
  refine .w (.move rfl) ?_
  refine .l1 Tryd.underlying24 info_5 (fun v28 => ?_)
  refine JO.know (φ := v28.oneCell' = true) (fun w hs => (by obtain ⟨A, c, rfl, _⟩ := row_rd (by decide) (Res.row_ok.1 (hs.hok _ (.head _))); rfl)) fun hv28 => ?_
  refine .l1 Tryd.underlying24 info_5 (fun v29 => ?_)
  refine JO.know (φ := v29.oneCell' = true) (fun w hs => (by obtain ⟨A, c, rfl, _⟩ := row_rd (by decide) (Res.row_ok.1 (hs.hok _ (.head _))); rfl)) fun hv29 => ?_
  refine .l1 Tryd.underlying23 info_24 (fun v30 => ?_) (h1 := (by intro a ha; simp only [List.mem_cons, List.not_mem_nil, or_false] at ha; rcases ha with rfl | rfl; exact hv28; exact hv29))
  refine JO.freeze (v := v28) (by repeat (first | exact Pull.here _ _ | apply Pull.there)) (by decide) ?_
  refine JO.freeze (v := v29) (by repeat (first | exact Pull.here _ _ | apply Pull.there)) (by decide) ?_
  refine JO.bundle (pcRes [(v28, [97#8]), (v29, [99#8])]) (Subs.sub (by repeat (first | exact Subs.nil _ | apply Subs.cons | exact List.Mem.head _ | refine List.Mem.tail _ ?_))) ?_
  refine .cb (f16A_spec b15 w3 (.map none) MM.nil (.inl ⟨rfl, rfl⟩) A3 (by rw [← bytesP_len, hBA3]; decide) v30 [(v28, [97#8]), (v29, [99#8])]) body_16 ?_ (h0 := by rintro _ _ _ ⟨_, _, _, _, h, _⟩; exact h)
  rintro _ _ ⟨w4, mv4, hm4, rfl, _, rfl⟩
  refine .ap ?_
  rw [show bytesP [(v28, [97#8]), (v29, [99#8])] = [[97#8], [99#8]] from rfl] at hm4 ⊢
  refine JO.allOf A3 A3 (delP A3 [[97#8], [99#8]]) (by repeat (first | exact List.Mem.head _ | refine List.Mem.tail _ ?_)) (by repeat (first | exact List.Mem.head _ | refine List.Mem.tail _ ?_)) (fun z hz => .inl (delP_sub z hz)) ?_
  have hBd := delP_bytes A3 [[97#8], [99#8]]
  rw [hBA3] at hBd
  obtain ⟨A4, hA4⟩ : ∃ X, delP A3 [[97#8], [99#8]] = X := ⟨_, rfl⟩
  rw [hA4] at hBd ⊢
  have hBA4 : bytesP A4 = [[98#8]] := hBd.trans (by decide)
  rw [show (A3.length : Int) - (A4.length : Int) = 1 from by rw [← bytesP_len, ← bytesP_len, hBA3, hBA4]; decide]
  refine .w (.assign rfl) ?_
  refine .nil (.tn (.seq (.region ?_)))
  refine .w (.move rfl) ?_
  refine .l1 Tryd.underlying24 info_5 (fun v33 => ?_)
  refine .cb (f14_spec b15 w4 mv4 (putsM MM.nil [[97#8], [99#8]]) hm4 A4 (by rw [← bytesP_len, hBA4]; decide) v33 [99#8]) body_14 ?_ (h0 := by rintro _ _ _ ⟨_, _, _, _, h, _⟩; exact h)
  rintro _ _ ⟨w5, N5, hN5, rfl, _, rfl⟩
  refine .ap ?_
  rw [hBA4, show addN [[98#8]] (wasB (putsM MM.nil [[97#8], [99#8]])) [99#8] = [] from by decide] at hN5
  rw [hBA4, show addE [[98#8]] (wasB (putsM MM.nil [[97#8], [99#8]])) [99#8] = 13 from by decide]
  refine JO.frzP (by repeat (first | exact Pull.here _ _ | apply Pull.there)) ?_
  refine JO.allOf A4 N5 (A4 ++ N5) (by repeat (first | exact List.Mem.head _ | refine List.Mem.tail _ ?_)) (by repeat (first | exact List.Mem.head _ | refine List.Mem.tail _ ?_)) (fun z hz => List.mem_append.1 hz) ?_
  obtain ⟨A5, hA5⟩ : ∃ X, A4 ++ N5 = X := ⟨_, rfl⟩
  rw [hA5]
  have hBA5 : bytesP A5 = [[98#8]] := by rw [← hA5, show bytesP (A4 ++ N5) = bytesP A4 ++ bytesP N5 from List.map_append, hBA4, hN5]; rfl
  refine .w (.assign rfl) ?_
  refine .nil (.tn (.seq (.region ?_)))
  refine .w (.move rfl) ?_
  refine .cb (f15_spec b15 w5 mv4 A5 9 (by rw [← bytesP_len, hBA5]; decide) (fun b hb => by rw [hBA5] at hb; revert b; decide)) body_15 ?_ (h0 := by rintro _ _ _ ⟨_, _, h, _⟩; exact h)
  rintro v36 _ ⟨B2, hB2, _, rfl⟩
  refine .ap ?_
  rw [show (bytesP A5).take (max 0 (min 9 (A5.length : Int))).toNat = [[98#8]] from by rw [← bytesP_len, hBA5]; decide] at hB2
  refine JO.frzP (by repeat (first | exact Pull.here _ _ | apply Pull.there)) ?_
  refine .w (.assign rfl) ?_
  refine .nil (.tn (.seq (.region ?_)))
  refine .l1 Tryd.underlying24 info_5 (fun v38 => ?_)
  refine JO.know (φ := v38.oneCell' = true) (fun w hs => (by obtain ⟨A, c, rfl, _⟩ := row_rd (by decide) (Res.row_ok.1 (hs.hok _ (.head _))); rfl)) fun hv38 => ?_
  refine .l1 Tryd.underlying24 info_5 (fun v39 => ?_)
  refine JO.know (φ := v39.oneCell' = true) (fun w hs => (by obtain ⟨A, c, rfl, _⟩ := row_rd (by decide) (Res.row_ok.1 (hs.hok _ (.head _))); rfl)) fun hv39 => ?_
  refine .l1 Tryd.underlying23 info_24 (fun v40 => ?_) (h1 := (by intro a ha; simp only [List.mem_cons, List.not_mem_nil, or_false] at ha; rcases ha with rfl | rfl; exact hv38; exact hv39))
  refine JO.freeze (v := v38) (by repeat (first | exact Pull.here _ _ | apply Pull.there)) (by decide) ?_
  refine JO.freeze (v := v39) (by repeat (first | exact Pull.here _ _ | apply Pull.there)) (by decide) ?_
  refine JO.bundle (pcRes [(v38, [97#8]), (v39, [98#8])]) (Subs.sub (by repeat (first | exact Subs.nil _ | apply Subs.cons | exact List.Mem.head _ | refine List.Mem.tail _ ?_))) ?_
  refine .cb (f6_spec 7#64 v40 [(v38, [97#8]), (v39, [98#8])]) body_6 ?_ (h0 := by rintro _ _ _ ⟨_, _, h, _⟩; exact h)
  rintro _ _ ⟨x1, rfl, _, rfl⟩
  refine .ap ?_
  have hp : packE (bytesP [(v38, [97#8]), (v39, [98#8])]) = 0 := (show packE [[97#8], [98#8]] = 0 by decide)
  rw [show packO 7#64 (bytesP [(v38, [97#8]), (v39, [98#8])]) = packB 7#64 (bytesP [(v38, [97#8]), (v39, [98#8])]) from if_pos hp, hp]
  refine JO.freeze (v := x1) (by repeat (first | exact Pull.here _ _ | apply Pull.there)) (by decide) ?_
  refine .w (.move rfl) ?_
  refine .w (.extract rfl rfl) ?_
  refine .w (.extract rfl rfl) ?_
  refine .w (.assign rfl) ?_
  refine .w (.assign rfl) ?_
  refine .nil (.tn (.seq (.region ?_)))
  refine .w (.move rfl) ?_
  refine .cs (f8_spec x1 (packB 7#64 (bytesP [(v38, [97#8]), (v39, [98#8])])) (by have := packO_len 7#64 (bytesP [(v38, [97#8]), (v39, [98#8])]); rw [show packO 7#64 (bytesP [(v38, [97#8]), (v39, [98#8])]) = packB 7#64 (bytesP [(v38, [97#8]), (v39, [98#8])]) from if_pos hp] at this; omega)) body_8 ?_
  rintro _ _ _ ⟨x2, N6, hN6, rfl, rfl, rfl⟩
  refine .ap ?_
  refine .ap ?_
  rw [(un_pack hp).2.2] at hN6
  rw [(un_pack hp).1, (un_pack hp).2.1]
  refine .w (.move rfl) ?_
  refine .w (.extract rfl rfl) ?_
  refine .w (.extract rfl rfl) ?_
  refine .w (.extract rfl rfl) ?_
  refine .w (.assign rfl) ?_
  refine .w (.assign rfl) ?_
  refine .w (.assign rfl) ?_
  refine .nil (.tn (.seq (.region ?_)))
  refine .w (.move rfl) ?_
  refine .w (.as (v' := .bool true) (.bin rfl rfl BinR.eql_i) rfl) ?_
  refine .w (.move rfl) ?_
  refine .gt (g := 52) rfl rfl rfl ?_
  refine .w (.move rfl) ?_
  refine .gt (g := 52) rfl rfl rfl ?_
  refine .w (.as (v' := .bool true) (.bin rfl rfl BinR.eql_i) rfl) ?_
  refine .w (.pick1 rfl rfl rfl) ?_
  refine .w (.move rfl) ?_
  refine .gt (g := 56) rfl rfl rfl ?_
  refine .w (.move rfl) ?_
  refine .gt (g := 56) rfl rfl rfl ?_
  refine .w (.as (v' := .bool true) (.bin rfl rfl BinR.eql_i) rfl) ?_
  refine .w (.pick1 rfl rfl rfl) ?_
  refine .w (.move rfl) ?_
  refine .gt (g := 60) rfl rfl rfl ?_
  refine .w (.move rfl) ?_
  refine .gt (g := 60) rfl rfl rfl ?_
  refine .l1 Tryd.underlying24 info_5 (fun v62 => ?_)
  refine JO.know (φ := v62.oneCell' = true) (fun w hs => (by obtain ⟨A, c, rfl, _⟩ := row_rd (by decide) (Res.row_ok.1 (hs.hok _ (.head _))); rfl)) fun hv62 => ?_
  refine .gt (g := 60) rfl rfl rfl ?_
  refine .l1 Tryd.underlying23 info_24 (fun v63 => ?_) (h1 := (one_sing hv62))
  refine JO.freeze (v := v62) (by repeat (first | exact Pull.here _ _ | apply Pull.there)) (by decide) ?_
  refine JO.bundle (pcRes [(v62, [97#8])]) (Subs.sub (by repeat (first | exact Subs.nil _ | apply Subs.cons | exact List.Mem.head _ | refine List.Mem.tail _ ?_))) ?_
  refine .gt (g := 60) rfl rfl rfl ?_
  refine .c (f12_spec v26 v63 B1 [(v62, [97#8])]) body_12 ?_
  rw [decide_eq_true (show bytesP B1 = bytesP [(v62, [97#8])] by rw [hB1]; rfl)]
  refine .w (.pick1 rfl rfl rfl) ?_
  refine .w (.move rfl) ?_
  refine .gt (g := 66) rfl rfl rfl ?_
  refine .w (.move rfl) ?_
  refine .gt (g := 66) rfl rfl rfl ?_
  refine .w (.as (v' := .bool true) (.bin rfl rfl BinR.eql_i) rfl) ?_
  refine .w (.pick1 rfl rfl rfl) ?_
  refine .w (.move rfl) ?_
  refine .gt (g := 70) rfl rfl rfl ?_
  refine .w (.move rfl) ?_
  refine .gt (g := 70) rfl rfl rfl ?_
  refine .w (.as (v' := .bool true) (.bin rfl rfl BinR.eql_i) rfl) ?_
  refine .w (.pick1 rfl rfl rfl) ?_
  refine .w (.move rfl) ?_
  refine .gt (g := 74) rfl rfl rfl ?_
  refine .w (.move rfl) ?_
  refine .gt (g := 74) rfl rfl rfl ?_
  refine .l1 Tryd.underlying24 info_5 (fun v76 => ?_)
  refine JO.know (φ := v76.oneCell' = true) (fun w hs => (by obtain ⟨A, c, rfl, _⟩ := row_rd (by decide) (Res.row_ok.1 (hs.hok _ (.head _))); rfl)) fun hv76 => ?_
  refine .gt (g := 74) rfl rfl rfl ?_
  refine .l1 Tryd.underlying23 info_24 (fun v77 => ?_) (h1 := (one_sing hv76))
  refine JO.freeze (v := v76) (by repeat (first | exact Pull.here _ _ | apply Pull.there)) (by decide) ?_
  refine JO.bundle (pcRes [(v76, [98#8])]) (Subs.sub (by repeat (first | exact Subs.nil _ | apply Subs.cons | exact List.Mem.head _ | refine List.Mem.tail _ ?_))) ?_
  refine .gt (g := 74) rfl rfl rfl ?_
  refine .c (f12_spec v36 v77 B2 [(v76, [98#8])]) body_12 ?_
  rw [decide_eq_true (show bytesP B2 = bytesP [(v76, [98#8])] by rw [hB2]; rfl)]
  refine .w (.pick1 rfl rfl rfl) ?_
  refine .w (.move rfl) ?_
  refine .gt (g := 80) rfl rfl rfl ?_
  refine .w (.move rfl) ?_
  refine .gt (g := 80) rfl rfl rfl ?_
  refine .w (.as (v' := .bool true) (.bin rfl rfl (BinR.eql_u64 (b := 7#64))) rfl) ?_
  refine .w (.pick1 rfl rfl rfl) ?_
  refine .w (.move rfl) ?_
  refine .gt (g := 84) rfl rfl rfl ?_
  refine .w (.move rfl) ?_
  refine .gt (g := 84) rfl rfl rfl ?_
  refine .w (.as (v' := .bool true) (.bin rfl rfl BinR.eql_i) rfl) ?_
  refine .w (.pick1 rfl rfl rfl) ?_
  refine .w (.move rfl) ?_
  refine .gt (g := 88) rfl rfl rfl ?_
  refine .w (.move rfl) ?_
  refine .gt (g := 88) rfl rfl rfl ?_
  refine .l1 Tryd.underlying24 info_5 (fun v90 => ?_)
  refine JO.know (φ := v90.oneCell' = true) (fun w hs => (by obtain ⟨A, c, rfl, _⟩ := row_rd (by decide) (Res.row_ok.1 (hs.hok _ (.head _))); rfl)) fun hv90 => ?_
  refine .gt (g := 88) rfl rfl rfl ?_
  refine .l1 Tryd.underlying24 info_5 (fun v91 => ?_)
  refine JO.know (φ := v91.oneCell' = true) (fun w hs => (by obtain ⟨A, c, rfl, _⟩ := row_rd (by decide) (Res.row_ok.1 (hs.hok _ (.head _))); rfl)) fun hv91 => ?_
  refine .gt (g := 88) rfl rfl rfl ?_
  refine .l1 Tryd.underlying23 info_24 (fun v92 => ?_) (h1 := (by intro a ha; simp only [List.mem_cons, List.not_mem_nil, or_false] at ha; rcases ha with rfl | rfl; exact hv90; exact hv91))
  refine JO.freeze (v := v90) (by repeat (first | exact Pull.here _ _ | apply Pull.there)) (by decide) ?_
  refine JO.freeze (v := v91) (by repeat (first | exact Pull.here _ _ | apply Pull.there)) (by decide) ?_
  refine JO.bundle (pcRes [(v90, [97#8]), (v91, [98#8])]) (Subs.sub (by repeat (first | exact Subs.nil _ | apply Subs.cons | exact List.Mem.head _ | refine List.Mem.tail _ ?_))) ?_
  refine .gt (g := 88) rfl rfl rfl ?_
  refine .c (f12_spec x2 v92 N6 [(v90, [97#8]), (v91, [98#8])]) body_12 ?_
  rw [decide_eq_true (show bytesP N6 = bytesP [(v90, [97#8]), (v91, [98#8])] by rw [hN6]; rfl)]
  refine .w (.pick1 rfl rfl rfl) ?_
  refine .w (.assign rfl) ?_
  refine .nil (.tn (.ret ?_))
  exact .dn [] [] (res1 rfl (.tmp rfl)) ⟨rfl, rfl, rfl⟩
end Go.Proofs.YtffgimlkmfjgmaaDoor
