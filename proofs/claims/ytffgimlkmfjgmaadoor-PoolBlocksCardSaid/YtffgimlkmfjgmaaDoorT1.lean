/- Walks: tagged digests. -/
import Derived.Test.YtffgimlkmfjgmaaDoorS5
import Derived.Test.YtffgimlkmfjgmaaDoorI7
import Derived.Test.YtffgimlkmfjgmaaDoorF1
namespace Go.Proofs.YtffgimlkmfjgmaaDoor
open Go.RowKit
set_option maxRecDepth 100000
set_option linter.unusedVariables false
set_option linter.unusedSimpArgs false
theorem f55_spec (n : BitVec 64) :
    Spec Tryd.prog 55 #[(u64 n)] [] []
      (fun r Γ' H' => True ∧ Γ' = [Res.rd r (digs n 8).length 1 ((digs n 8).map u8)] ∧ H' = []) := by
  refine Spec.of_args Tryd.func55 rfl Tryd.ntmps55 (by simp) fun w => ?_
  refine .seq (.region ?_)
  refine .w (.assign rfl) ?_
  refine .nil (.tn (.seq (.region ?_)))
  refine .w (.move rfl) ?_
  refine .w (.as (v' := natV [n, 0, 0, 0]) (.build bld_72 rfl rfl) rfl) ?_
  refine .cb (f43_spec [n, 0, 0, 0] rfl) body_43 ?_
  rintro v5 _ ⟨_, _, rfl⟩
  refine .ap ?_
  refine .cf 24 32 Tryd.underlying24 sz_5 (fun v6 => ?_) (hn := (by rw [natBytes_length]; decide))
  rw [rd_num]
  refine .w (.assign rfl) ?_
  refine .nil (.tn (.ret ?_))
  exact .dn [Res.rd v6 (digs n 8).length 1 ((digs n 8).map u8)] [] (res1 rfl (.tmp rfl)) ⟨trivial, rfl, rfl⟩

theorem f63_spec (n : BitVec 64) :
    Spec Tryd.prog 63 #[(u64 n)] [] []
      (fun r Γ' H' => True ∧ Γ' = [] ∧ H' = [Res.row r (digs n 8).length 5 1 ((digs n 8).map u8)]) := by
  refine Spec.of_args Tryd.func63 rfl Tryd.ntmps63 (by simp) fun w => ?_
  refine .seq (.region ?_)
  refine .w (.assign rfl) ?_
  refine .nil (.tn (.seq (.region ?_)))
  refine JO.nilRow 5 1 ?_
  refine .w (.assign rfl) ?_
  refine .nil (.tn (.seq (.seq (.region ?_))))
  refine .w (.assign rfl) ?_
  refine .nil (.tn (.block ?_))
  refine .lp (ι := Nat × Value) (fun x => x.1 ≤ 8) (fun T x => (4, it (x.1 : Int)) :: (3, x.2) :: T) (fun T _ => T) (fun T x => Res.row x.2 x.1 5 1 (((digs n 8).take x.1).map u8) :: T) (fun x => 8 - x.1) (0, .slice none 0 0) [0, 2, 18] ?_ (fun x hx => ?_)
  · exact (by decide)
  obtain ⟨k, v⟩ := x
  have hk : k ≤ 8 := hx
  dsimp only
  refine .seq (.seq (.region ?_))
  refine .w (.move rfl) ?_
  refine .w (.bin rfl rfl BinR.lss_i) ?_
  refine .nil (.tn ?_)
  refine .cn rfl (fun hc1 => ?_) (fun hc1 => ?_)
  · refine .skip (.tn (.seq (.block (.region ?_))))
    refine .w (.move rfl) ?_
    refine .w (.move rfl) ?_
    refine .w (.move rfl) ?_
    refine .w (.bin rfl rfl (BinR.mul_i (by first | (constructor <;> omega) | (constructor <;> simp <;> omega)))) ?_
    refine .w (.asI ((8 * (7 - k) : Nat) : Int) (.bin rfl rfl (BinR.sub_i (by first | (constructor <;> omega) | (constructor <;> simp <;> omega))))) ?_
    refine .w (.bin rfl rfl (BinR.shr_u64_i (by first | omega | decide | (simp; omega)))) ?_
    refine .w (.as (v' := u8 ((n >>> (8 * (7 - k))).setWidth 8)) (.conv_u64_u8 Tryd.underlying22 Tryd.underlying5 rfl) rfl) ?_
    refine .l1 Tryd.underlying24 info_5 (fun v16 => ?_)
    refine .ap Tryd.underlying24 info_5 (fun v17 => ?_)
    refine .w (.assign rfl) ?_
    refine .nil (.block_normal (.tn (.region ?_)))
    refine .w (.move rfl) ?_
    refine .w (.bin rfl rfl (BinR.add_i (by first | (constructor <;> omega) | (constructor <;> simp <;> omega)))) ?_
    refine .w (.assign rfl) ?_
    refine .nil ?_
    rw [digs_snoc n (by omega)]
    refine .hd (k + 1, v17) ?_
    exact ⟨by dsimp only; omega, by dsimp only; omega⟩
  · obtain rfl : k = 8 := by omega
    refine .exit (.then_exit (.then_exit (.block_exit (.tn (.seq (.region ?_))))))
    refine .w (.move rfl) ?_
    refine .w (.assign rfl) ?_
    refine .nil (.tn (.ret ?_))
    exact .dn [] [Res.row v 8 5 1 (((digs n 8).take 8).map u8)] (res1 rfl (.tmp rfl)) ⟨trivial, rfl, by rw [List.take_of_length_le (by simp), digs_len]⟩

theorem f35_spec (tg : B8) (htg : tg.length ≤ 1000000) (lv : Value) (L : Pcs) :
    Spec Tryd.prog 35 #[(.string (strOf tg)), lv] [Res.var 1 (sqr.map u32), Res.var 0 (cub.map u32), Res.rd lv L.length 1 (L.map Prod.fst), Res.all (pcRes L)] []
      (fun r Γ' H' => r = (.agg ((sha (inB tg (bytesP L))).map u8).toArray) ∧ Γ' = [] ∧ H' = []) := by
  refine Spec.of_args Tryd.func35 rfl Tryd.ntmps35 (by simp) fun w => ?_
  refine JC.know (φ := L.length ≤ 9223372036854775807) (fun w hs => by obtain ⟨_, _, _, _, _, _, h⟩ := hs.rdForm (.tail _ (.tail _ (.head _))); unfold maxLen at h; omega) fun hla => ?_
  refine .seq (.region ?_)
  refine .al zero_33 fun b4 => ?_
  obtain ⟨zd, hzd⟩ : ∃ z, (Value.agg #[.int .u8 0, .int .u8 0, .int .u8 0, .int .u8 0, .int .u8 0, .int .u8 0, .int .u8 0, .int .u8 0, .int .u8 0, .int .u8 0, .int .u8 0, .int .u8 0, .int .u8 0, .int .u8 0, .int .u8 0, .int .u8 0, .int .u8 0, .int .u8 0, .int .u8 0, .int .u8 0, .int .u8 0, .int .u8 0, .int .u8 0, .int .u8 0, .int .u8 0, .int .u8 0, .int .u8 0, .int .u8 0, .int .u8 0, .int .u8 0, .int .u8 0, .int .u8 0]).cells.toList = z := ⟨_, rfl⟩
  have hzl : zd.length = 32 := by rw [← hzd]; rfl
  first | rw [hzd] | (change JO _ _ _ _ _ _ _ _ (Res.cells b4 zd _ :: _); skip)
  refine .nil (.tn (.seq (.region ?_)))
  refine .cb f53_spec body_53 ?_ (h0 := by rintro _ _ _ ⟨_, _, h, _⟩; exact h)
  rintro _ _ ⟨q, rfl, _, rfl⟩
  refine .ap ?_
  rw [show hcells sqr (List.replicate 64 0) 0 = hst [] (List.replicate 64 0) from rfl]
  refine .w (.assign rfl) ?_
  refine .nil (.tn (.seq (.region ?_)))
  refine .w (.move rfl) ?_
  refine .w (.move rfl) ?_
  refine .w (.len_st Tryd.underlying9 rfl) ?_
  refine .w (.as (v' := u64 (BitVec.ofNat 64 tg.length)) (.conv_i_u64 Tryd.underlying3 Tryd.underlying22 rfl) (congrArg u64 (BitVec.ofInt_natCast _ _))) ?_
  refine .cs (f55_spec (BitVec.ofNat 64 tg.length)) body_55 ?_
  rintro v12 _ _ ⟨_, rfl, rfl⟩
  refine .ap ?_
  refine .ap ?_
  refine .cb (f54_spec q [] (List.replicate 64 0) hok_nil v12 (n8 tg.length)) body_54 ?_ (h0 := by rintro _ _ _ ⟨_, _, _, h, _⟩; exact h)
  rintro _ _ ⟨bs1, rfl, hok1, _, rfl⟩
  refine .ap ?_
  rw [List.nil_append] at hok1 ⊢
  refine .nil (.tn (.seq (.region ?_)))
  refine .w (.move rfl) ?_
  refine .w (.move rfl) ?_
  refine JO.cvb Tryd.underlying9 Tryd.underlying24 Tryd.underlying5 rfl (by omega) (by decide) fun v17 => ?_
  refine .cb (f54_spec q (n8 tg.length) bs1 hok1 v17 tg) body_54 ?_ (h0 := by rintro _ _ _ ⟨_, _, _, h, _⟩; exact h)
  rintro _ _ ⟨bs2, rfl, hok2, _, rfl⟩
  refine .ap ?_
  refine .nil (.tn (.seq (.seq (.region ?_))))
  refine .w (.move rfl) ?_
  refine .w (.len Tryd.underlying23 rfl) ?_
  refine .w (.move rfl) ?_
  refine .nil (.tn (.block ?_))
  refine .lp (ι := Nat × B8) (fun x => x.1 ≤ L.length ∧ HOK (n8 tg.length ++ tg ++ ((bytesP L).take x.1).flatMap itB) x.2) (fun T x => (21, it (x.1 : Int)) :: T) (fun T _ => T) (fun T x => Res.cells q (hst (n8 tg.length ++ tg ++ ((bytesP L).take x.1).flatMap itB) x.2) 89 :: T) (fun x => L.length - x.1) (0, bs2) [4, 5, 19, 20, 35, 36] ?_ (fun x hx => ?_) (hH := (by dsimp only; rw [List.take_zero, List.flatMap_nil, List.append_nil]; repeat (first | exact Picks.nil _ | apply Picks.cons | exact Pull.here _ _ | apply Pull.there)))
  · exact ⟨Nat.zero_le _, by simpa using hok2⟩
  obtain ⟨k, bs⟩ := x
  obtain ⟨hk, hok⟩ := hx
  dsimp only at hk hok ⊢
  refine .seq (.region ?_)
  refine .w (.bin rfl rfl BinR.lss_i) ?_
  refine .nil (.tn (.seq ?_))
  refine .cn rfl (fun hc1 => ?_) (fun hc1 => ?_)
  · refine .skip (.tn (.seq (.block (.seq (.region ?_)))))
    refine JO.open (r := Res.rd (pcAt L k).1 (pcAt L k).2.length 1 ((pcAt L k).2.map u8)) (by repeat (first | exact List.Mem.head _ | refine List.Mem.tail _ ?_)) (pc_res (by omega)) ?_
    refine .w (.ix1 Tryd.underlying23 sz_24 rfl rfl) ?_
    refine .w (.ld one_24 rfl (hj := by first | exact pc_get (by omega) | rfl | exact tab_get (by first | omega | (simp; omega)) | exact gm (d := 0) (by first | omega | (simp; omega)))) ?_
    refine .w (.assign rfl) ?_
    refine .nil (.tn (.seq (.region ?_)))
    refine .w (.move rfl) ?_
    refine .w (.move rfl) ?_
    refine .w (.len Tryd.underlying24 rfl) ?_
    refine .w (.as (v' := u64 (BitVec.ofNat 64 (pcAt L k).2.length)) (.conv_i_u64 Tryd.underlying3 Tryd.underlying22 rfl) (congrArg u64 (BitVec.ofInt_natCast _ _))) ?_
    refine .cs (f55_spec (BitVec.ofNat 64 (pcAt L k).2.length)) body_55 ?_
    rintro v29 _ _ ⟨_, rfl, rfl⟩
    refine .ap ?_
    refine .ap ?_
    refine .cb (f54_spec q (n8 tg.length ++ tg ++ ((bytesP L).take k).flatMap itB) bs hok v29 (n8 (pcAt L k).2.length)) body_54 ?_ (h0 := by rintro _ _ _ ⟨_, _, _, h, _⟩; exact h)
    rintro _ _ ⟨bs3, rfl, hok3, _, rfl⟩
    refine .ap ?_
    refine .nil (.tn (.region ?_))
    refine .w (.move rfl) ?_
    refine .w (.move rfl) ?_
    refine .cb (f54_spec q ((n8 tg.length ++ tg ++ ((bytesP L).take k).flatMap itB) ++ n8 (pcAt L k).2.length) bs3 hok3 (pcAt L k).1 (pcAt L k).2) body_54 ?_ (h0 := by rintro _ _ _ ⟨_, _, _, h, _⟩; exact h)
    rintro _ _ ⟨bs4, rfl, hok4, _, rfl⟩
    refine .ap ?_
    rw [in_snoc (by omega)] at hok4 ⊢
    refine .nil (.block_normal (.tn (.region ?_)))
    refine .w (.bin rfl rfl (BinR.add_i (by first | (constructor <;> omega) | (constructor <;> simp <;> omega)))) ?_
    refine .w (.move rfl) ?_
    refine .nil ?_
    refine .hd (k + 1, bs4) ?_
    exact ⟨⟨by dsimp only; omega, hok4⟩, by dsimp only; omega⟩
  · have he : k = L.length := by omega
    subst he
    rw [show (bytesP L).take L.length = bytesP L from List.take_of_length_le (by rw [bytesP_len]; omega)] at hok ⊢
    rw [show n8 tg.length ++ tg ++ (bytesP L).flatMap itB = inB tg (bytesP L) from rfl] at hok ⊢
    refine .exit (.then_exit (.then_exit (.block_exit (.tn (.seq (.region ?_))))))
    refine .w (.move rfl) ?_
    refine .c (f56_spec q (inB tg (bytesP L)) bs hok) body_56 ?_
    first | refine .sa sz_33 ?_ | refine .so sz_33 ?_ | refine .sr sz_33 ?_
    refine .nil (.tn (.ret ?_))
    exact .dn [] [] (res1 rfl (.cl agg_33)) ⟨rfl, rfl, rfl⟩

theorem f58_spec (tg : B8) (lv : Value) (L : Pcs) (hb : (inB tg (bytesP L)).length ≤ 1000000) :
    Spec Tryd.prog 58 #[(.string (strOf tg)), lv] [Res.rd lv L.length 1 (L.map Prod.fst), Res.all (pcRes L)] []
      (fun r Γ' H' => True ∧ Γ' = [] ∧ H' = [Res.row r (inB tg (bytesP L)).length 5 1 ((inB tg (bytesP L)).map u8)]) := by
  refine Spec.of_args Tryd.func58 rfl Tryd.ntmps58 (by simp) fun w => ?_
  refine JC.know (φ := L.length ≤ 9223372036854775807) (fun w hs => by obtain ⟨_, _, _, _, _, _, h⟩ := hs.rdForm (.head _); unfold maxLen at h; omega) fun hla => ?_
  have h0 := in_le tg (bytesP L) 0
  rw [List.take_zero, List.flatMap_nil, List.append_nil, List.length_append, n8_len] at h0
  refine .seq (.region ?_)
  refine .w (.assign rfl) ?_
  refine .nil (.tn (.seq (.region ?_)))
  refine .w (.move rfl) ?_
  refine .w (.len_st Tryd.underlying9 rfl) ?_
  refine .w (.as (v' := u64 (BitVec.ofNat 64 tg.length)) (.conv_i_u64 Tryd.underlying3 Tryd.underlying22 rfl) (congrArg u64 (BitVec.ofInt_natCast _ _))) ?_
  refine .cb (f63_spec (BitVec.ofNat 64 tg.length)) body_63 ?_
  rintro v10 _ ⟨_, _, rfl⟩
  refine .ap ?_
  rw [show digs (BitVec.ofNat 64 tg.length) 8 = n8 tg.length from rfl, n8_len]
  refine .w (.move rfl) ?_
  refine JO.aps Tryd.underlying24 Tryd.underlying9 info_5 rfl rfl (by repeat (first | exact Pull.here _ _ | apply Pull.there)) (by unfold maxLen; omega) (by omega) (by decide) fun v12 => ?_
  rw [map_cat, show 8 + tg.length = (n8 tg.length ++ tg).length from by rw [List.length_append, n8_len]]
  refine .w (.assign rfl) ?_
  refine .nil (.tn (.seq (.seq (.region ?_))))
  refine .w (.assign rfl) ?_
  refine .nil (.tn (.block ?_))
  refine .lp (ι := Nat × Value) (fun x => x.1 ≤ L.length) (fun T x => (6, it (x.1 : Int)) :: (5, x.2) :: T) (fun T _ => T) (fun T x => Res.row x.2 ((n8 tg.length ++ tg ++ ((bytesP L).take x.1).flatMap itB)).length 5 1 (((n8 tg.length ++ tg ++ ((bytesP L).take x.1).flatMap itB)).map u8) :: T) (fun x => L.length - x.1) (0, v12) [1, 4, 34] ?_ (fun x hx => ?_) (hH := (by dsimp only; rw [List.take_zero, List.flatMap_nil, List.append_nil]; repeat (first | exact Picks.nil _ | apply Picks.cons | exact Pull.here _ _ | apply Pull.there)))
  · exact Nat.zero_le _
  obtain ⟨k, v⟩ := x
  have hk : k ≤ L.length := hx
  dsimp only
  have hkl := in_le tg (bytesP L) k
  refine .seq (.seq (.region ?_))
  refine .w (.move rfl) ?_
  refine .w (.move rfl) ?_
  refine .w (.len Tryd.underlying23 rfl) ?_
  refine .w (.bin rfl rfl BinR.lss_i) ?_
  refine .nil (.tn ?_)
  refine .cn rfl (fun hc1 => ?_) (fun hc1 => ?_)
  · have hkl2 := in_le tg (bytesP L) (k + 1)
    rw [← in_snoc (by omega), List.length_append, List.length_append, n8_len] at hkl2
    have hA8 := n8_len (pcAt L k).2.length
    have hX : ((n8 tg.length ++ tg ++ ((bytesP L).take k).flatMap itB) ++ n8 (pcAt L k).2.length).length = (n8 tg.length ++ tg ++ ((bytesP L).take k).flatMap itB).length + 8 := by rw [List.length_append, n8_len]
    refine .skip (.tn (.seq (.block (.seq (.region ?_)))))
    refine JO.open (r := Res.rd (pcAt L k).1 (pcAt L k).2.length 1 ((pcAt L k).2.map u8)) (by repeat (first | exact List.Mem.head _ | refine List.Mem.tail _ ?_)) (pc_res (by omega)) ?_
    refine .w (.move rfl) ?_
    refine .w (.move rfl) ?_
    refine .w (.move rfl) ?_
    refine .w (.ix1 Tryd.underlying23 sz_24 rfl rfl) ?_
    refine .w (.ld one_24 rfl (hj := by first | exact pc_get (by omega) | rfl | exact tab_get (by first | omega | (simp; omega)) | exact gm (d := 0) (by first | omega | (simp; omega)))) ?_
    refine .w (.len Tryd.underlying24 rfl) ?_
    refine .w (.as (v' := u64 (BitVec.ofNat 64 (pcAt L k).2.length)) (.conv_i_u64 Tryd.underlying3 Tryd.underlying22 rfl) (congrArg u64 (BitVec.ofInt_natCast _ _))) ?_
    refine .cb (f63_spec (BitVec.ofNat 64 (pcAt L k).2.length)) body_63 ?_
    rintro v26 _ ⟨_, _, rfl⟩
    refine .ap ?_
    rw [show digs (BitVec.ofNat 64 (pcAt L k).2.length) 8 = n8 (pcAt L k).2.length from rfl]
    refine .ap Tryd.underlying24 info_5 (fun v27 => ?_) (hone := one_u8s)
    rw [map_cat, len_cat]
    refine .w (.assign rfl) ?_
    refine .nil (.tn (.region ?_))
    refine .w (.move rfl) ?_
    refine .w (.move rfl) ?_
    refine .w (.move rfl) ?_
    refine .w (.ix1 Tryd.underlying23 sz_24 rfl rfl) ?_
    refine .w (.ld one_24 rfl (hj := by first | exact pc_get (by omega) | rfl | exact tab_get (by first | omega | (simp; omega)) | exact gm (d := 0) (by first | omega | (simp; omega)))) ?_
    refine .ap Tryd.underlying24 info_5 (fun v33 => ?_) (hone := one_u8s)
    rw [map_cat, len_cat, in_snoc (by omega)]
    refine .w (.assign rfl) ?_
    refine .nil (.block_normal (.tn (.region ?_)))
    refine .w (.move rfl) ?_
    refine .w (.bin rfl rfl (BinR.add_i (by first | (constructor <;> omega) | (constructor <;> simp <;> omega)))) ?_
    refine .w (.assign rfl) ?_
    refine .nil ?_
    refine .hd (k + 1, v33) ?_
    exact ⟨by dsimp only; omega, by dsimp only; omega⟩
  · have he : k = L.length := by omega
    subst he
    rw [show (bytesP L).take L.length = bytesP L from List.take_of_length_le (by rw [bytesP_len]; omega)]
    refine .exit (.then_exit (.then_exit (.block_exit (.tn (.seq (.region ?_))))))
    refine .w (.move rfl) ?_
    refine .w (.assign rfl) ?_
    refine .nil (.tn (.ret ?_))
    exact .dn [] [Res.row v (inB tg (bytesP L)).length 5 1 ((inB tg (bytesP L)).map u8)] (res1 rfl (.tmp rfl)) ⟨trivial, rfl, rfl⟩

theorem f36_spec (tg : B8) (lv : Value) (L : Pcs) (hb : (inB tg (bytesP L)).length ≤ 1000000) :
    Spec Tryd.prog 36 #[(.string (strOf tg)), lv] [Res.rd lv L.length 1 (L.map Prod.fst), Res.all (pcRes L)] []
      (fun r Γ' H' => r = (.agg ((sha (inB tg (bytesP L))).map u8).toArray) ∧ Γ' = [] ∧ H' = []) := by
  refine Spec.of_args Tryd.func36 rfl Tryd.ntmps36 (by simp) fun w => ?_
  refine .seq (.region ?_)
  refine .al zero_33 fun b4 => ?_
  refine .nil (.tn (.seq (.region ?_)))
  refine .w (.move rfl) ?_
  refine .w (.move rfl) ?_
  refine .cb (f58_spec tg lv L hb) body_58 ?_
  rintro v7 _ ⟨_, _, rfl⟩
  refine .ap ?_
  refine .c (f57_spec v7 (inB tg (bytesP L)) hb) body_57 ?_
  first | refine .sa sz_33 ?_ | refine .so sz_33 ?_ | refine .sr sz_33 ?_
  refine .nil (.tn (.ret ?_))
  exact .dn [] [] (res1 rfl (.cl agg_33)) ⟨rfl, rfl, rfl⟩

theorem f10_spec (v : Value) (b : B8) (hb : b.length ≤ 100000) :
    Spec Tryd.prog 10 #[v] [Res.var 1 (sqr.map u32), Res.var 0 (cub.map u32), Res.rd v b.length 1 (b.map u8)] []
      (fun r Γ' H' => r = (.agg ((sha (inB [98#8, 108#8, 111#8, 99#8, 107#8] [b])).map u8).toArray) ∧ Γ' = [] ∧ H' = []) := by
  refine Spec.of_args Tryd.func10 rfl Tryd.ntmps10 (by simp) fun w => ?_
  refine JC.know (φ := v.oneCell' = true) (fun w hs => by obtain ⟨A, c, rfl, _⟩ := hs.rdForm (.tail _ (.tail _ (.head _))); rfl) fun hv1 => ?_
  refine .seq (.region ?_)
  refine .al zero_33 fun b2 => ?_
  refine .nil (.tn (.seq (.region ?_)))
  refine .w (.move rfl) ?_
  refine .l1 Tryd.underlying23 info_24 (fun v4 => ?_) (h1 := (one_sing hv1))
  refine JO.bundle (pcRes [(v, b)]) (Subs.sub (by repeat (first | exact Subs.nil _ | apply Subs.cons | exact List.Mem.head _ | refine List.Mem.tail _ ?_))) ?_
  refine .c (f35_spec [98#8, 108#8, 111#8, 99#8, 107#8] (by decide) v4 [(v, b)]) body_35 ?_
  rw [show bytesP [(v, b)] = [b] from rfl]
  first | refine .sa sz_33 ?_ | refine .so sz_33 ?_ | refine .sr sz_33 ?_
  refine .nil (.tn (.ret ?_))
  exact .dn [] [] (res1 rfl (.cl agg_33)) ⟨rfl, rfl, rfl⟩

theorem f13_spec (v : Value) (b : B8) (hb : b.length ≤ 100000) :
    Spec Tryd.prog 13 #[v] [Res.rd v b.length 1 (b.map u8)] []
      (fun r Γ' H' => r = (.agg ((sha (inB [98#8, 108#8, 111#8, 99#8, 107#8] [b])).map u8).toArray) ∧ Γ' = [] ∧ H' = []) := by
  refine Spec.of_args Tryd.func13 rfl Tryd.ntmps13 (by simp) fun w => ?_
  refine JC.know (φ := v.oneCell' = true) (fun w hs => by obtain ⟨A, c, rfl, _⟩ := hs.rdForm (.head _); rfl) fun hv1 => ?_
  refine .seq (.region ?_)
  refine .al zero_33 fun b2 => ?_
  refine .nil (.tn (.seq (.region ?_)))
  refine .w (.move rfl) ?_
  refine .l1 Tryd.underlying23 info_24 (fun v4 => ?_) (h1 := (one_sing hv1))
  refine JO.bundle (pcRes [(v, b)]) (Subs.sub (by repeat (first | exact Subs.nil _ | apply Subs.cons | exact List.Mem.head _ | refine List.Mem.tail _ ?_))) ?_
  refine .c (f36_spec [98#8, 108#8, 111#8, 99#8, 107#8] v4 [(v, b)] (by simp [inB, itB, bytesP]; omega)) body_36 ?_
  rw [show bytesP [(v, b)] = [b] from rfl]
  first | refine .sa sz_33 ?_ | refine .so sz_33 ?_ | refine .sr sz_33 ?_
  refine .nil (.tn (.ret ?_))
  exact .dn [] [] (res1 rfl (.cl agg_33)) ⟨rfl, rfl, rfl⟩
end Go.Proofs.YtffgimlkmfjgmaaDoor
