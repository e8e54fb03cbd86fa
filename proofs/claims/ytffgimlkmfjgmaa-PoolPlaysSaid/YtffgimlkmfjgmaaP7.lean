/- Walks: the document's pool. -/
import Derived.Test.YtffgimlkmfjgmaaP5
namespace Go.Proofs.Ytffgimlkmfjgmaa
open Go.RowKit
set_option maxRecDepth 100000
set_option linter.unusedVariables false
set_option linter.unusedSimpArgs false
theorem f19_spec (p : Nat) (wv dv : Value) (B C : Pcs) (hB : B.length ≤ 100000) (u : Value) (b : B8) :
    Spec Try.prog 19 #[(ptr p 0), u] [Res.all (pcRes B), Res.all (pcRes C), Res.rd u b.length 1 (b.map u8)] [Res.cells p [wv, dv] 52, Res.row wv B.length 24 1 (B.map Prod.fst), Res.row dv C.length 24 1 (C.map Prod.fst)]
      (fun r Γ' H' => ∃ wv' N, bytesP N = (addN (bytesP B) (fun c => decide (c ∈ bytesP C)) b) ∧ (∀ z ∈ N, z = (u, b)) ∧ r = it (addE (bytesP B) (fun c => decide (c ∈ bytesP C)) b) ∧ Γ' = [] ∧ H' = [Res.cells p [wv', dv] 52, Res.row wv' (B ++ N).length 24 1 ((B ++ N).map Prod.fst), Res.row dv C.length 24 1 (C.map Prod.fst)]) := by
  refine Spec.of_args Try.func19 rfl Try.ntmps19 (by simp) fun w => ?_
  refine JC.know (φ := u.oneCell' = true) (fun w hs => by obtain ⟨A, c, rfl, _⟩ := hs.rdForm (.tail _ (.tail _ (.head _))); rfl) fun hu => ?_
  refine JC.know (φ := b.length ≤ 9223372036854775807) (fun w hs => by obtain ⟨_, _, _, _, _, _, h⟩ := hs.rdForm (.tail _ (.tail _ (.head _))); unfold maxLen at h; omega) fun hlb => ?_
  refine JC.know (φ := ∀ a ∈ B.map Prod.fst, a.oneCell' = true) (fun w hs => pcs_one (hs.gok (Res.all (pcRes B)) (by repeat (first | exact List.Mem.head _ | refine List.Mem.tail _ ?_)))) fun honeB => ?_
  refine .seq (.region ?_)
  refine .w (.assign rfl) ?_
  refine .nil (.tn (.seq (.seq (.region ?_))))
  refine .w (.move rfl) ?_
  refine .w (.len Try.underlying24 rfl) ?_
  refine .w (.bin rfl rfl BinR.lss_i) ?_
  refine .join 5 14 (.bool (decide (b.length < 1 ∨ b.length > 1000))) ?_ ?_
  · refine .w (.move rfl) ?_
    refine .gn (g := 9) rfl (fun hg6 hg6' => ?_) (fun hg6 hg6' => ?_)
    · refine .gf (g := 10) rfl rfl hg6 (by decide) ?_
      refine .gf (g := 10) rfl rfl hg6 (by decide) ?_
      refine .gf (g := 10) rfl rfl hg6 (by decide) ?_
      refine .w (.pick1 rfl hg6 rfl) ?_
      refine .nil ?_
      refine .head () (by first | (refine ⟨by first | rfl | exact congrArg (fun b => some (Value.bool b)) (by first | exact (decide_eq_true (by omega)).symm | exact (decide_eq_false (by omega)).symm | exact decide_eq_decide.2 (by omega)) | (simp [*]; done) | (show some _ = some _; simp [*]; done), ?_⟩; repeat (first | exact trivial | refine ⟨rfl, ?_⟩))) (fun _ h => h) (Picks.perm (by repeat (first | exact Picks.nil _ | apply Picks.cons | exact Pull.here _ _ | apply Pull.there))) ?_
      trivial
    · refine .gt (g := 10) rfl rfl hg6 ?_
      refine .w (.move rfl) ?_
      refine .gt (g := 10) rfl rfl hg6 ?_
      refine .w (.len Try.underlying24 rfl) ?_
      refine .gt (g := 10) rfl rfl hg6 ?_
      refine .w (.bin rfl rfl BinR.gtr_i) ?_
      refine .w (.pick0 rfl hg6 rfl) ?_
      refine .nil ?_
      refine .head () (by first | (refine ⟨by first | rfl | exact congrArg (fun b => some (Value.bool b)) (by first | exact (decide_eq_true (by omega)).symm | exact (decide_eq_false (by omega)).symm | exact decide_eq_decide.2 (by omega)) | (simp [*]; done) | (show some _ = some _; simp [*]; done), ?_⟩; repeat (first | exact trivial | refine ⟨rfl, ?_⟩))) (fun _ h => h) (Picks.perm (by repeat (first | exact Picks.nil _ | apply Picks.cons | exact Pull.here _ _ | apply Pull.there))) ?_
      trivial
  · refine .nil (.tn ?_)
    refine .cn rfl (fun hc1 => ?_) (fun hc1 => ?_)
    · refine .seq (.region ?_)
      refine .w (.assign rfl) ?_
      refine .nil (.tn (.ret (.then_ret ?_)))
      have he : (addE (bytesP B) (fun c => decide (c ∈ bytesP C)) b) = 2 := by rw [addE_eq, if_pos hc1]
      exact .dn [] [Res.cells p [wv, dv] 52, Res.row wv B.length 24 1 (B.map Prod.fst), Res.row dv C.length 24 1 (C.map Prod.fst)] (res1 rfl (.tmp rfl)) ⟨wv, [], (by rw [addN_0 he (by decide)]; rfl), (by simp), (by rw [he]), rfl, (by rw [List.append_nil])⟩
    · refine .skip (.tn (.seq (.region ?_)))
      refine .w (.move rfl) ?_
      refine .w (.nilCheck rfl) ?_
      refine .w (.fieldAddr fa_52_0 rfl) ?_
      refine .w (.ld one_23 rfl) ?_
      refine .w (.move rfl) ?_
      refine .c (f17_spec wv u B b) body_17 ?_
      refine .w (.assign rfl) ?_
      refine .nil (.tn (.seq (.region ?_)))
      refine .w (.move rfl) ?_
      refine .w (.nilCheck rfl) ?_
      refine .w (.fieldAddr fa_52_1 rfl) ?_
      refine .w (.ld one_23 rfl) ?_
      refine .w (.move rfl) ?_
      refine .c (f17_spec dv u C b) body_17 ?_
      refine .w (.assign rfl) ?_
      refine .nil (.tn (.seq (.seq (.region ?_))))
      refine .w (.move rfl) ?_
      refine .join 3 30 (.bool (decide (b ∈ bytesP B ∨ b ∈ bytesP C))) ?_ ?_
      · refine .w (.move rfl) ?_
        refine .gn (g := 5) rfl (fun hg27 hg27' => ?_) (fun hg27 hg27' => ?_)
        · refine .gf (g := 28) rfl rfl hg27 (by decide) ?_
          refine .w (.pick1 rfl hg27 rfl) ?_
          refine .nil ?_
          refine .head () (by first | (refine ⟨by first | rfl | exact congrArg (fun b => some (Value.bool b)) (by first | exact (decide_eq_true (by omega)).symm | exact (decide_eq_false (by omega)).symm | exact decide_eq_decide.2 (by omega)) | (simp [*]; done) | (show some _ = some _; simp [*]; done), ?_⟩; repeat (first | exact trivial | refine ⟨rfl, ?_⟩))) (fun _ h => h) (Picks.perm (by repeat (first | exact Picks.nil _ | apply Picks.cons | exact Pull.here _ _ | apply Pull.there))) ?_
          trivial
        · refine .gt (g := 28) rfl rfl hg27 ?_
          refine .w (.move rfl) ?_
          refine .w (.pick0 rfl hg27 rfl) ?_
          refine .nil ?_
          refine .head () (by first | (refine ⟨by first | rfl | exact congrArg (fun b => some (Value.bool b)) (by first | exact (decide_eq_true (by omega)).symm | exact (decide_eq_false (by omega)).symm | exact decide_eq_decide.2 (by omega)) | (simp [*]; done) | (show some _ = some _; simp [*]; done), ?_⟩; repeat (first | exact trivial | refine ⟨rfl, ?_⟩))) (fun _ h => h) (Picks.perm (by repeat (first | exact Picks.nil _ | apply Picks.cons | exact Pull.here _ _ | apply Pull.there))) ?_
          trivial
      · refine .nil (.tn ?_)
        refine .cn rfl (fun hc2 => ?_) (fun hc2 => ?_)
        · refine .seq (.region ?_)
          refine .w (.assign rfl) ?_
          refine .nil (.tn (.ret (.then_ret ?_)))
          have he : (addE (bytesP B) (fun c => decide (c ∈ bytesP C)) b) = 13 := by rw [addE_eq, if_neg hc1, if_pos (by simpa using hc2)]
          exact .dn [] [Res.cells p [wv, dv] 52, Res.row wv B.length 24 1 (B.map Prod.fst), Res.row dv C.length 24 1 (C.map Prod.fst)] (res1 rfl (.tmp rfl)) ⟨wv, [], (by rw [addN_0 he (by decide)]; rfl), (by simp), (by rw [he]), rfl, (by rw [List.append_nil])⟩
        · refine .skip (.tn (.seq (.seq (.region ?_))))
          refine .w (.move rfl) ?_
          refine .w (.nilCheck rfl) ?_
          refine .w (.fieldAddr fa_52_0 rfl) ?_
          refine .w (.ld one_23 rfl) ?_
          refine .w (.len Try.underlying23 rfl) ?_
          refine .w (.bin rfl rfl BinR.geq_i) ?_
          refine .nil (.tn ?_)
          refine .cn rfl (fun hc3 => ?_) (fun hc3 => ?_)
          · refine .seq (.region ?_)
            refine .w (.assign rfl) ?_
            refine .nil (.tn (.ret (.then_ret ?_)))
            have he : (addE (bytesP B) (fun c => decide (c ∈ bytesP C)) b) = 52 := by rw [addE_eq, if_neg hc1, if_neg (by simpa using hc2), if_pos (by rw [bytesP_len]; omega)]
            exact .dn [] [Res.cells p [wv, dv] 52, Res.row wv B.length 24 1 (B.map Prod.fst), Res.row dv C.length 24 1 (C.map Prod.fst)] (res1 rfl (.tmp rfl)) ⟨wv, [], (by rw [addN_0 he (by decide)]; rfl), (by simp), (by rw [he]), rfl, (by rw [List.append_nil])⟩
          · refine .skip (.tn (.seq (.region ?_)))
            refine .w (.move rfl) ?_
            refine .le Try.underlying23 sz_24 fun v38 => ?_
            refine .w (.move rfl) ?_
            refine .w (.nilCheck rfl) ?_
            refine .w (.fieldAddr fa_52_0 rfl) ?_
            refine .w (.ld one_23 rfl) ?_
            refine .ap Try.underlying23 info_24 (fun v43 => ?_) (hone := honeB)
            rw [List.nil_append, Nat.zero_add B.length]
            refine .w (.move rfl) ?_
            refine .l1 Try.underlying23 info_24 (fun v45 => ?_) (h1 := (one_sing hu))
            refine .ap Try.underlying23 info_24 (fun v46 => ?_) (hone := (one_sing hu))
            rw [snoc_row (b := b)]
            refine .w (.nilCheck rfl) ?_
            refine .w (.fieldAddr fa_52_0 rfl) ?_
            first | refine .s1 sz_23 ?_ | refine .s1s sz_23 ?_ | refine .sr1 sz_23 ?_
            refine .nil (.tn (.seq (.region ?_)))
            refine .w (.assign rfl) ?_
            refine .nil (.tn (.ret ?_))
            have he : (addE (bytesP B) (fun c => decide (c ∈ bytesP C)) b) = 0 := by rw [addE_eq, if_neg hc1, if_neg (by simpa using hc2), if_neg (by rw [bytesP_len]; omega)]
            exact .dn [] [Res.cells p [v46, dv] 52, Res.row v46 (B ++ [(u, b)]).length 24 1 ((B ++ [(u, b)]).map Prod.fst), Res.row dv C.length 24 1 (C.map Prod.fst)] (res1 rfl (.tmp rfl)) ⟨v46, [(u, b)], (by rw [addN, if_pos he]; rfl), (by simp), (by rw [he]), rfl, rfl⟩

theorem f20_spec (p : Nat) (wv dv : Value) (B C : Pcs) (hB : B.length ≤ 100000) (hC : C.length ≤ 100000) (lv : Value) (L : Pcs) (hL : L.length ≤ 100000) :
    Spec Try.prog 20 #[(ptr p 0), lv] [Res.all (pcRes B), Res.all (pcRes C), Res.rd lv L.length 1 (L.map Prod.fst), Res.all (pcRes L)] [Res.cells p [wv, dv] 52, Res.row wv B.length 24 1 (B.map Prod.fst), Res.row dv C.length 24 1 (C.map Prod.fst)]
      (fun r Γ' H' => ∃ wv' dv', r = it ((B.length - (notIn (bytesP L) B).length : Nat) : Int) ∧ Γ' = [] ∧ H' = [Res.cells p [wv', dv'] 52, Res.row wv' (notIn (bytesP L) B).length 24 1 ((notIn (bytesP L) B).map Prod.fst), Res.row dv' (C ++ L).length 24 1 ((C ++ L).map Prod.fst)]) := by
  refine Spec.of_args Try.func20 rfl Try.ntmps20 (by simp) fun w => ?_
  refine JC.know (φ := ∀ a ∈ B.map Prod.fst, a.oneCell' = true) (fun w hs => pcs_one (hs.gok (Res.all (pcRes B)) (by repeat (first | exact List.Mem.head _ | refine List.Mem.tail _ ?_)))) fun honeB => ?_
  refine JC.know (φ := ∀ a ∈ C.map Prod.fst, a.oneCell' = true) (fun w hs => pcs_one (hs.gok (Res.all (pcRes C)) (by repeat (first | exact List.Mem.head _ | refine List.Mem.tail _ ?_)))) fun honeC => ?_
  refine JC.know (φ := ∀ a ∈ L.map Prod.fst, a.oneCell' = true) (fun w hs => pcs_one (hs.gok (Res.all (pcRes L)) (by repeat (first | exact List.Mem.head _ | refine List.Mem.tail _ ?_)))) fun honeL => ?_
  refine .seq (.region ?_)
  refine .w (.assign rfl) ?_
  refine .nil (.tn (.seq (.region ?_)))
  refine JO.nilRow 24 1 ?_
  refine .w (.assign rfl) ?_
  refine .nil (.tn (.seq (.region ?_)))
  refine .w (.assign rfl) ?_
  refine .nil (.tn (.seq (.seq (.region ?_))))
  refine .w (.assign rfl) ?_
  refine .nil (.tn (.block ?_))
  refine .lp (ι := Nat × Value) (fun x => x.1 ≤ B.length) (fun T x => (7, it (x.1 : Int)) :: (6, it ((x.1 - (notIn (bytesP L) (B.take x.1)).length : Nat) : Int)) :: (5, x.2) :: T) (fun T _ => T) (fun T x => Res.cells p [wv, dv] 52 :: Res.row wv B.length 24 1 (B.map Prod.fst) :: Res.row dv C.length 24 1 (C.map Prod.fst) :: Res.row x.2 (notIn (bytesP L) (B.take x.1)).length 24 1 ((notIn (bytesP L) (B.take x.1)).map Prod.fst) :: T) (fun x => B.length - x.1) (0, .slice none 0 0) [0, 1, 4, 40, 41, 42, 43, 44, 45, 46, 47, 48, 49, 50, 51, 52, 53, 54, 55] ?_ (fun x hx => ?_)
  · exact Nat.zero_le _
  obtain ⟨i, vo⟩ := x
  have hi : i ≤ B.length := hx
  dsimp only
  have hle := notIn_le (bytesP L) (B.take i)
  rw [List.length_take] at hle
  refine .seq (.seq (.region ?_))
  refine .w (.move rfl) ?_
  refine .w (.move rfl) ?_
  refine .w (.nilCheck rfl) ?_
  refine .w (.fieldAddr fa_52_0 rfl) ?_
  refine .w (.ld one_23 rfl (hj := by first | exact pc_get (by omega) | rfl | exact tab_get (by first | omega | (simp; omega)) | exact gm (d := 0) (by first | omega | (simp; omega)))) ?_
  refine .w (.len Try.underlying23 rfl) ?_
  refine .w (.bin rfl rfl BinR.lss_i) ?_
  refine .nil (.tn ?_)
  refine .cn rfl (fun hc1 => ?_) (fun hc1 => ?_)
  · refine .skip (.tn (.seq (.block (.seq (.region ?_)))))
    refine JO.open (r := Res.rd (pcAt B i).1 (pcAt B i).2.length 1 ((pcAt B i).2.map u8)) (by repeat (first | exact List.Mem.head _ | refine List.Mem.tail _ ?_)) (pc_res (by omega)) ?_
    refine .w (.move rfl) ?_
    refine .w (.move rfl) ?_
    refine .w (.nilCheck rfl) ?_
    refine .w (.fieldAddr fa_52_0 rfl) ?_
    refine .w (.ld one_23 rfl (hj := by first | exact pc_get (by omega) | rfl | exact tab_get (by first | omega | (simp; omega)) | exact gm (d := 0) (by first | omega | (simp; omega)))) ?_
    refine .w (.move rfl) ?_
    refine .w (.ix1 Try.underlying23 sz_24 rfl rfl) ?_
    refine .w (.ld one_24 rfl (hj := by first | exact pc_get (by omega) | rfl | exact tab_get (by first | omega | (simp; omega)) | exact gm (d := 0) (by first | omega | (simp; omega)))) ?_
    refine .c (f17_spec lv (pcAt B i).1 L (pcAt B i).2) body_17 ?_
    refine .w (.assign rfl) ?_
    refine .nil (.tn (.seq (.region ?_)))
    refine .w (.move rfl) ?_
    refine .nil (.tn ?_)
    refine .cn rfl (fun hc2 => ?_) (fun hc2 => ?_)
    · have hN : (notIn (bytesP L) (B.take (i + 1))) = (notIn (bytesP L) (B.take i)) := by rw [notIn_succ (by omega), if_pos hc2, List.append_nil]
      refine .region ?_
      refine .w (.move rfl) ?_
      refine .w (.bin rfl rfl (BinR.add_i (by first | (constructor <;> omega) | (constructor <;> simp <;> omega)))) ?_
      refine .w (.assign rfl) ?_
      refine .nil (.block_normal (.tn (.region ?_)))
      refine .w (.move rfl) ?_
      refine .w (.bin rfl rfl (BinR.add_i (by first | (constructor <;> omega) | (constructor <;> simp <;> omega)))) ?_
      refine .w (.assign rfl) ?_
      refine .nil ?_
      refine .hd (i + 1, vo) ?_ (hE := (by dsimp only; first | (rw [hN]; repeat (first | exact trivial | refine ⟨by first | rfl | exact congrArg (fun z => some (it z)) (by first | omega | (simp; done) | (simp; omega)), ?_⟩)) | fail)) (hH := (by dsimp only; rw [hN]; repeat (first | exact Picks.nil _ | apply Picks.cons | exact Pull.here _ _ | apply Pull.there)))
      exact ⟨by dsimp only; omega, by dsimp only; omega⟩
    · have hN : (notIn (bytesP L) (B.take (i + 1))) = (notIn (bytesP L) (B.take i)) ++ [((pcAt B i).1, (pcAt B i).2)] := by rw [notIn_succ (by omega), if_neg hc2]
      refine .region ?_
      refine .w (.move rfl) ?_
      refine .w (.move rfl) ?_
      refine .w (.nilCheck rfl) ?_
      refine .w (.fieldAddr fa_52_0 rfl) ?_
      refine .w (.ld one_23 rfl (hj := by first | exact pc_get (by omega) | rfl | exact tab_get (by first | omega | (simp; omega)) | exact gm (d := 0) (by first | omega | (simp; omega)))) ?_
      refine .w (.move rfl) ?_
      refine .w (.ix1 Try.underlying23 sz_24 rfl rfl) ?_
      refine .w (.ld one_24 rfl (hj := by first | exact pc_get (by omega) | rfl | exact tab_get (by first | omega | (simp; omega)) | exact gm (d := 0) (by first | omega | (simp; omega)))) ?_
      refine .l1 Try.underlying23 info_24 (fun v38 => ?_) (h1 := (one_sing (honeB _ (List.mem_map.2 ⟨_, pc_mem (by omega), rfl⟩))))
      refine .ap Try.underlying23 info_24 (fun v39 => ?_) (hone := (one_sing (honeB _ (List.mem_map.2 ⟨_, pc_mem (by omega), rfl⟩))))
      rw [snoc_row (b := (pcAt B i).2)]
      refine .w (.assign rfl) ?_
      refine .nil (.block_normal (.tn (.region ?_)))
      refine .w (.move rfl) ?_
      refine .w (.bin rfl rfl (BinR.add_i (by first | (constructor <;> omega) | (constructor <;> simp <;> omega)))) ?_
      refine .w (.assign rfl) ?_
      refine .nil ?_
      refine .hd (i + 1, v39) ?_ (hE := (by dsimp only; first | (rw [hN]; repeat (first | exact trivial | refine ⟨by first | rfl | exact congrArg (fun z => some (it z)) (by first | omega | (simp; done) | (simp; omega)), ?_⟩)) | fail)) (hH := (by dsimp only; rw [hN]; repeat (first | exact Picks.nil _ | apply Picks.cons | exact Pull.here _ _ | apply Pull.there)))
      exact ⟨by dsimp only; omega, by dsimp only; omega⟩
  · have he : i = B.length := by omega
    subst he
    rw [List.take_length]
    refine .exit (.then_exit (.then_exit (.block_exit (.tn (.seq (.region ?_))))))
    refine .w (.move rfl) ?_
    refine .w (.move rfl) ?_
    refine .w (.nilCheck rfl) ?_
    refine .w (.fieldAddr fa_52_0 rfl) ?_
    first | refine .s1 sz_23 ?_ | refine .s1s sz_23 ?_ | refine .sr1 sz_23 ?_
    refine .nil (.tn (.seq (.region ?_)))
    refine .w (.move rfl) ?_
    refine .le Try.underlying23 sz_24 fun v45 => ?_
    refine .w (.move rfl) ?_
    refine .w (.nilCheck rfl) ?_
    refine .w (.fieldAddr fa_52_1 rfl) ?_
    refine .w (.ld one_23 rfl (hj := by first | exact pc_get (by omega) | rfl | exact tab_get (by first | omega | (simp; omega)) | exact gm (d := 0) (by first | omega | (simp; omega)))) ?_
    refine .ap Try.underlying23 info_24 (fun v50 => ?_) (hone := honeC)
    rw [List.nil_append, Nat.zero_add C.length]
    refine .w (.move rfl) ?_
    refine .ap Try.underlying23 info_24 (fun v52 => ?_) (hone := honeL)
    rw [← List.map_append, ← List.length_append]
    refine .w (.nilCheck rfl) ?_
    refine .w (.fieldAddr fa_52_1 rfl) ?_
    first | refine .s1 sz_23 ?_ | refine .s1s sz_23 ?_ | refine .sr1 sz_23 ?_
    refine .nil (.tn (.seq (.region ?_)))
    refine .w (.move rfl) ?_
    refine .w (.assign rfl) ?_
    refine .nil (.tn (.ret ?_))
    exact .dn [] [Res.cells p [vo, v52] 52, Res.row vo (notIn (bytesP L) B).length 24 1 ((notIn (bytesP L) B).map Prod.fst), Res.row v52 (C ++ L).length 24 1 ((C ++ L).map Prod.fst)] (res1 rfl (.tmp rfl)) ⟨_, _, rfl, rfl, rfl⟩

theorem f21_spec (p : Nat) (wv dv : Value) (B : Pcs) (n : Int) :
    Spec Try.prog 21 #[(ptr p 0), (it n)] [Res.cells p [wv, dv] 52, Res.rd wv B.length 1 (B.map Prod.fst)] []
      (fun r Γ' H' => r = (if n < 1 then .slice none 0 0 else cutV 1 wv 0 (min n.toNat B.length)) ∧ Γ' = [] ∧ H' = []) := by
  refine Spec.of_args Try.func21 rfl Try.ntmps21 (by simp) fun w => ?_
  obtain ⟨q, hq⟩ : ∃ q, min n.toNat B.length = q := ⟨_, rfl⟩
  refine .seq (.region ?_)
  refine .w (.assign rfl) ?_
  refine .nil (.tn (.seq (.seq (.region ?_))))
  refine .w (.move rfl) ?_
  refine .w (.bin rfl rfl BinR.lss_i) ?_
  refine .nil (.tn ?_)
  refine .cn rfl (fun hc1 => ?_) (fun hc1 => ?_)
  · refine .seq (.region ?_)
    refine .w (.assign rfl) ?_
    refine .nil (.tn (.ret (.then_ret ?_)))
    exact .dn [] [] (res1 rfl (.tmp rfl)) ⟨by rw [if_pos hc1], rfl, rfl⟩
  · refine .skip (.tn (.seq ?_))
    refine JC.draw (.one 0 (.one 1 (.one 2 (.one 3 (.one 4 (.one 5 (.one 6 (.one 7 (.one 8 (.one 9 (.one 10 (.one 11 (.one 12 .nil))))))))))))) (fun i => ([] : List Nat).contains i) (fun i => ([] : List Nat).contains i) (fun i => ([0, 1, 2, 4, 5, 6, 7, 9, 10, 11, 12] : List Nat).contains i) mixed (by kernel_rfl) (by decide) (by kernel_rfl) ?_
    refine .uw rfl (.move rfl) ?_
    refine .uw rfl (.nilCheck rfl) ?_
    refine .uw rfl (.fieldAddr fa_52_0 rfl) ?_
    refine .w rfl (.ld one_23 rfl) ?_
    refine .uw rfl (.move rfl) ?_
    refine .uw rfl (.move rfl) ?_
    refine .uw rfl (.nilCheck rfl) ?_
    refine .uw rfl (.fieldAddr fa_52_0 rfl) ?_
    refine .w rfl (.ld one_23 rfl) ?_
    refine .uw rfl (.len Try.underlying23 rfl) ?_
    refine .uw rfl (.asI (q : Int) (.min_i rfl rfl)) ?_
    refine .uw rfl (.cutRd (l := 0) (h := q) Try.underlying23 sz_24 rfl (by repeat (first | exact List.Mem.head _ | refine List.Mem.tail _ ?_)) rfl ⟨_, rfl⟩ (by first | (simp; done) | omega | (simp; omega)) (by first | (simp; done) | omega | (simp; omega))) ?_
    refine .uw rfl (.assign rfl) ?_
    refine .nil (.tn (.ret ?_))
    exact .dn [] [] (res1 rfl (.tmp rfl)) ⟨by rw [if_neg hc1, hq], rfl, rfl⟩
end Go.Proofs.Ytffgimlkmfjgmaa
