/- Walks: mark, Frame, frames. -/
import Derived.Test.YtganfkmkapogmaaDoorF6
import Derived.Test.YtganfkmkapogmaaDoorF7
import Derived.Test.YtganfkmkapogmaaDoorJ1
namespace Go.Proofs.YtganfkmkapogmaaDoor
open Go.RowKit
set_option maxRecDepth 100000
set_option linter.unusedVariables false
set_option linter.unusedSimpArgs false
theorem of2_spec (v : Value) (x y : Value × B8) : Spec Tryd.prog 30 #[v] [Res.var 1 (sqr.map u32), Res.var 0 (cub.map u32), Res.rd v 2 1 [x.1, y.1], Res.rd x.1 x.2.length 1 (x.2.map u8), Res.rd y.1 y.2.length 1 (y.2.map u8)] [] (fun r Γ' H' => r = .agg ((sha (x.2 ++ y.2)).map u8).toArray ∧ Γ' = [] ∧ H' = []) := by
  have h := Spec.unb (Γ := [Res.var 1 (sqr.map u32), Res.var 0 (cub.map u32), Res.rd v 2 1 [x.1, y.1]]) (G := pcRes [x, y]) (f30_spec v [x, y])
  simpa [pcRes, pcB] using h

theorem f24_spec (v : Value) (b : B8) (hb : b.length ≤ 1000000) :
    Spec Tryd.prog 24 #[v] [Res.var 1 (sqr.map u32), Res.var 0 (cub.map u32), Res.rd v b.length 1 (b.map u8)] []
      (fun r Γ' H' => True ∧ Γ' = [] ∧ H' = [Res.row r (markB b).length 5 1 ((markB b).map u8)]) := by
  refine Spec.of_args Tryd.func24 rfl Tryd.ntmps24 (by simp) fun w => ?_
  refine JC.know (φ := v.oneCell' = true) (fun w hs => by obtain ⟨A, c, rfl, _⟩ := hs.rdForm (.tail _ (.tail _ (.head _))); rfl) fun hv1 => ?_
  refine .seq (.region ?_)
  refine .w (.assign rfl) ?_
  refine .nil (.tn (.seq (.region ?_)))
  refine .w (.move rfl) ?_
  refine .w (.len Tryd.underlying22 rfl) ?_
  refine .cb (f29_spec b.length (by omega)) body_29 ?_
  rintro v6 _ ⟨_, _, rfl⟩
  refine .ap ?_
  refine JO.know (φ := v6.oneCell' = true) (fun w hs => (by obtain ⟨A, c, rfl⟩ := hs.rowForm (.head _) (by decide); rfl)) fun hv6 => ?_
  refine .w (.assign rfl) ?_
  refine .nil (.tn (.seq (.region ?_)))
  refine .w (.move rfl) ?_
  refine .w (.move rfl) ?_
  refine .l1 Tryd.underlying24 info_22 (fun v10 => ?_) (h1 := (by simp [hv6, hv1]))
  refine .c (of2_spec v10 (v6, be4 b.length) (v, b)) body_30 ?_
  refine .al zero_53 fun b4 => ?_
  first | refine .sa sz_53 ?_ | refine .so sz_53 ?_ | refine .sr sz_53 ?_
  refine .nil (.tn (.seq (.region ?_)))
  refine .w (.move rfl) ?_
  refine .w (.cutArr (l := 0) (h := 4) Tryd.underlying53 sz_5 rfl rfl ⟨_, rfl⟩ (by first | exact ltb rfl | (simp; done) | (simp; omega) | omega | (simp [*]; omega)) (by first | exact ltb rfl | (simp; done) | (simp; omega) | omega | (simp [*]; omega)) (by first | exact ltb rfl | (simp; done) | (simp; omega) | omega | (simp [*]; omega))) ?_
  refine .ap Tryd.underlying22 info_5 (fun v14 => ?_)
  rw [mark_row]
  refine .w (.assign rfl) ?_
  refine .nil (.tn (.ret ?_))
  exact .dn [] [Res.row _ (markB b).length 5 1 ((markB b).map u8)] (res1 rfl (.tmp rfl)) ⟨trivial, rfl, rfl⟩

theorem f18Ok_spec (v : Value) (b : B8) (hb : b.length ≤ 4000) :
    Spec Tryd.prog 18 #[v] [Res.var 1 (sqr.map u32), Res.var 0 (cub.map u32), Res.rd v b.length 1 (b.map u8)] []
      (fun r Γ' H' => ∃ u, r = .tuple #[u, it 0] ∧ Γ' = [] ∧ H' = [Res.row u (frameB b).length 5 1 ((frameB b).map u8)]) := by
  refine Spec.of_args Tryd.func18 rfl Tryd.ntmps18 (by simp) fun w => ?_
  refine .seq (.region ?_)
  refine .w (.assign rfl) ?_
  refine .w (.assign rfl) ?_
  refine .nil (.tn (.seq (.seq (.region ?_))))
  refine .w (.move rfl) ?_
  refine .w (.len Tryd.underlying22 rfl) ?_
  refine .w (.bin rfl rfl BinR.gtr_i) ?_
  refine .nil (.tn ?_)
  refine .cn rfl (fun hc1 => ?_) (fun hc1 => ?_)
  · exact absurd hc1 (by omega)
  · refine .skip (.tn (.seq (.region ?_)))
    refine .w (.move rfl) ?_
    refine .cb (f24_spec v b (by omega)) body_24 ?_
    rintro v8 _ ⟨_, _, rfl⟩
    refine .ap ?_
    refine .w (.move rfl) ?_
    refine .ap Tryd.underlying22 info_5 (fun v10 => ?_) (hnm := (by rw [markB_len]; unfold maxLen; omega)) (hb := (by rw [markB_len]; omega))
    rw [map_cat, len_cat]
    refine .w (.assign rfl) ?_
    refine .w (.assign rfl) ?_
    refine .nil (.tn (.ret ?_))
    exact .dn [] [Res.row _ (markB b ++ b).length 5 1 ((markB b ++ b).map u8)] (res2 rfl (.tmp rfl) (.tmp rfl)) ⟨_, rfl, rfl, rfl⟩

theorem f18No_spec (v : Value) (b : B8) (hb : ¬ b.length ≤ 4000) :
    Spec Tryd.prog 18 #[v] [Res.rd v b.length 1 (b.map u8)] []
      (fun r Γ' H' => r = (.tuple #[.slice none 0 0, it 2]) ∧ Γ' = [] ∧ H' = []) := by
  refine Spec.of_args Tryd.func18 rfl Tryd.ntmps18 (by simp) fun w => ?_
  refine JC.know (φ := b.length ≤ 9223372036854775807) (fun w hs => by obtain ⟨_, _, _, _, _, _, h⟩ := hs.rdForm (.head _); unfold maxLen at h; omega) fun hln => ?_
  refine .seq (.region ?_)
  refine .w (.assign rfl) ?_
  refine .w (.assign rfl) ?_
  refine .nil (.tn (.seq (.seq (.region ?_))))
  refine .w (.move rfl) ?_
  refine .w (.len Tryd.underlying22 rfl) ?_
  refine .w (.bin rfl rfl BinR.gtr_i) ?_
  refine .nil (.tn ?_)
  refine .cn rfl (fun hc1 => ?_) (fun hc1 => ?_)
  · refine .seq (.region ?_)
    refine .w (.assign rfl) ?_
    refine .w (.assign rfl) ?_
    refine .nil (.tn (.ret (.then_ret ?_)))
    exact .dn [] [] (res2 rfl (.tmp rfl) (.tmp rfl)) ⟨rfl, rfl, rfl⟩
  · exact absurd hc1 (by omega)

theorem f17Ok_spec (v : Value) (b : B8) (hb : b.length ≤ 4000) :
    Spec Tryd.prog 17 #[v] [Res.var 1 (sqr.map u32), Res.var 0 (cub.map u32), Res.rd v b.length 1 (b.map u8)] []
      (fun r Γ' H' => ∃ u, r = .tuple #[u, it 0] ∧ Γ' = [] ∧ H' = [Res.row u (frameB b).length 5 1 ((frameB b).map u8)]) := by
  refine Spec.of_args Tryd.func17 rfl Tryd.ntmps17 (by simp) fun w => ?_
  refine .seq (.region ?_)
  refine .w (.assign rfl) ?_
  refine .w (.assign rfl) ?_
  refine .nil (.tn (.seq (.seq (.region ?_))))
  refine .w (.move rfl) ?_
  refine .w (.len Tryd.underlying22 rfl) ?_
  refine .w (.bin rfl rfl BinR.gtr_i) ?_
  refine .nil (.tn ?_)
  refine .cn rfl (fun hc1 => ?_) (fun hc1 => ?_)
  · exact absurd hc1 (by omega)
  · refine .skip (.tn (.seq (.region ?_)))
    refine .w (.move rfl) ?_
    refine .w (.len Tryd.underlying22 rfl) ?_
    refine .w (.assign rfl) ?_
    refine .nil (.tn (.seq (.region ?_)))
    refine .w (.move rfl) ?_
    refine .w (.asI ((b.length / 16777216 : Nat) : Int) (.bin rfl rfl (BinR.quo_i (by first | omega | decide | (simp; omega)) (by first | omega | decide | (simp; omega)) (by first | (constructor <;> omega) | (constructor <;> simp <;> omega))))) ?_
    refine .w (.as (v' := u8 (BitVec.ofNat 8 (b.length / 16777216))) (.conv_i_u8 Tryd.underlying3 Tryd.underlying5 rfl) (congrArg u8 (BitVec.ofInt_natCast _ _))) ?_
    refine .w (.move rfl) ?_
    refine .w (.asI ((b.length / 65536 : Nat) : Int) (.bin rfl rfl (BinR.quo_i (by first | omega | decide | (simp; omega)) (by first | omega | decide | (simp; omega)) (by first | (constructor <;> omega) | (constructor <;> simp <;> omega))))) ?_
    refine .w (.as (v' := u8 (BitVec.ofNat 8 (b.length / 65536))) (.conv_i_u8 Tryd.underlying3 Tryd.underlying5 rfl) (congrArg u8 (BitVec.ofInt_natCast _ _))) ?_
    refine .w (.move rfl) ?_
    refine .w (.asI ((b.length / 256 : Nat) : Int) (.bin rfl rfl (BinR.quo_i (by first | omega | decide | (simp; omega)) (by first | omega | decide | (simp; omega)) (by first | (constructor <;> omega) | (constructor <;> simp <;> omega))))) ?_
    refine .w (.as (v' := u8 (BitVec.ofNat 8 (b.length / 256))) (.conv_i_u8 Tryd.underlying3 Tryd.underlying5 rfl) (congrArg u8 (BitVec.ofInt_natCast _ _))) ?_
    refine .w (.move rfl) ?_
    refine .w (.as (v' := u8 (BitVec.ofNat 8 b.length)) (.conv_i_u8 Tryd.underlying3 Tryd.underlying5 rfl) (congrArg u8 (BitVec.ofInt_natCast _ _))) ?_
    refine .l1 Tryd.underlying22 info_5 (fun v24 => ?_)
    rw [show [u8 (BitVec.ofNat 8 (b.length / 16777216)), u8 (BitVec.ofNat 8 (b.length / 65536)), u8 (BitVec.ofNat 8 (b.length / 256)), u8 (BitVec.ofNat 8 b.length)] = (be4 b.length).map u8 from rfl]
    refine .w (.assign rfl) ?_
    refine .nil (.tn (.seq (.region ?_)))
    refine .le Tryd.underlying22 sz_5 fun v25 => ?_
    refine .w (.move rfl) ?_
    refine .ap Tryd.underlying22 info_5 (fun v27 => ?_)
    rw [List.nil_append]
    refine .w (.move rfl) ?_
    refine .ap Tryd.underlying22 info_5 (fun v29 => ?_)
    rw [map_cat, show 0 + 4 + b.length = (be4 b.length ++ b).length by simp]
    refine .c (f23_spec v29 (be4 b.length ++ b) (by simp; omega)) body_23 ?_
    refine .al zero_53 fun b6 => ?_
    first | refine .sa sz_53 ?_ | refine .so sz_53 ?_ | refine .sr sz_53 ?_
    refine .nil (.tn (.seq (.region ?_)))
    refine .w (.move rfl) ?_
    refine .w (.ixA (j := 0) Tryd.underlying53 sz_5 rfl rfl) ?_
    refine .w (.ld one_5 rfl (hj := by first | exact gm (d := 0) (by simp) | rfl | exact tab_get (by first | omega | (simp; omega)) | exact gm (d := 0) (by first | omega | (simp; omega)))) ?_
    refine .w (.ixA (j := 1) Tryd.underlying53 sz_5 rfl rfl) ?_
    refine .w (.ld one_5 rfl (hj := by first | exact gm (d := 0) (by simp) | rfl | exact tab_get (by first | omega | (simp; omega)) | exact gm (d := 0) (by first | omega | (simp; omega)))) ?_
    refine .w (.ixA (j := 2) Tryd.underlying53 sz_5 rfl rfl) ?_
    refine .w (.ld one_5 rfl (hj := by first | exact gm (d := 0) (by simp) | rfl | exact tab_get (by first | omega | (simp; omega)) | exact gm (d := 0) (by first | omega | (simp; omega)))) ?_
    refine .w (.ixA (j := 3) Tryd.underlying53 sz_5 rfl rfl) ?_
    refine .w (.ld one_5 rfl (hj := by first | exact gm (d := 0) (by simp) | rfl | exact tab_get (by first | omega | (simp; omega)) | exact gm (d := 0) (by first | omega | (simp; omega)))) ?_
    refine .l1 Tryd.underlying22 info_5 (fun v40 => ?_)
    refine .ap Tryd.underlying22 info_5 (fun v41 => ?_)
    rw [rmark_row]
    refine .w (.assign rfl) ?_
    refine .nil (.tn (.seq (.region ?_)))
    refine .w (.move rfl) ?_
    refine .w (.move rfl) ?_
    refine .ap Tryd.underlying22 info_5 (fun v44 => ?_) (hnm := (by rw [markB_len]; unfold maxLen; omega)) (hb := (by rw [markB_len]; omega))
    rw [map_cat, len_cat]
    refine .w (.assign rfl) ?_
    refine .w (.assign rfl) ?_
    refine .nil (.tn (.ret ?_))
    exact .dn [] [Res.row _ (markB b ++ b).length 5 1 ((markB b ++ b).map u8)] (res2 rfl (.tmp rfl) (.tmp rfl)) ⟨_, rfl, rfl, rfl⟩

theorem f17No_spec (v : Value) (b : B8) (hb : ¬ b.length ≤ 4000) :
    Spec Tryd.prog 17 #[v] [Res.rd v b.length 1 (b.map u8)] []
      (fun r Γ' H' => r = (.tuple #[.slice none 0 0, it 2]) ∧ Γ' = [] ∧ H' = []) := by
  refine Spec.of_args Tryd.func17 rfl Tryd.ntmps17 (by simp) fun w => ?_
  refine JC.know (φ := b.length ≤ 9223372036854775807) (fun w hs => by obtain ⟨_, _, _, _, _, _, h⟩ := hs.rdForm (.head _); unfold maxLen at h; omega) fun hln => ?_
  refine .seq (.region ?_)
  refine .w (.assign rfl) ?_
  refine .w (.assign rfl) ?_
  refine .nil (.tn (.seq (.seq (.region ?_))))
  refine .w (.move rfl) ?_
  refine .w (.len Tryd.underlying22 rfl) ?_
  refine .w (.bin rfl rfl BinR.gtr_i) ?_
  refine .nil (.tn ?_)
  refine .cn rfl (fun hc1 => ?_) (fun hc1 => ?_)
  · refine .seq (.region ?_)
    refine .w (.assign rfl) ?_
    refine .w (.assign rfl) ?_
    refine .nil (.tn (.ret (.then_ret ?_)))
    exact .dn [] [] (res2 rfl (.tmp rfl) (.tmp rfl)) ⟨rfl, rfl, rfl⟩
  · exact absurd hc1 (by omega)

theorem f21_spec (u : Value) (hu : u.oneCell' = true) :
    Spec Tryd.prog 21 #[u] [] []
      (fun r Γ' H' => ∃ q, r = .func (.func 25) #[] #[ptr q 0] ∧ Γ' = [] ∧ H' = [Res.cells q [u] 22]) := by
  refine Spec.of_args Tryd.func21 rfl Tryd.ntmps21 (by simp) fun w => ?_
  refine .seq (.region ?_)
  refine .bx fun b1 => ?_
  rw [show u.cells.toList = [u] from congrArg Array.toList (one_cells hu)]
  refine .w (.assign rfl) ?_
  refine .nil (.tn (.seq (.region ?_)))
  refine .w (.makeFunc rfl rfl) ?_
  refine .w (.assign rfl) ?_
  refine .nil (.tn (.ret ?_))
  exact .dn [] [Res.cells b1 [u] 22] (res1 rfl (.tmp rfl)) ⟨_, rfl, rfl, rfl⟩
end Go.Proofs.YtganfkmkapogmaaDoor
