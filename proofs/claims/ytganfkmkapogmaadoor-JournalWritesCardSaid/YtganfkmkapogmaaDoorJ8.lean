/- Walks: frames, whole or refused. -/
import Derived.Test.YtganfkmkapogmaaDoorJ6
import Derived.Test.YtganfkmkapogmaaDoorJ5
import Derived.Test.YtganfkmkapogmaaDoorW11
namespace Go.Proofs.YtganfkmkapogmaaDoor
open Go.RowKit
set_option maxRecDepth 100000
set_option linter.unusedVariables false
set_option linter.unusedSimpArgs false
theorem f18N_spec (v : Value) (b : B8) (hb : ¬ b.length ≤ 4000) :
    Spec Tryd.prog 18 #[v] [Res.var 1 (sqr.map u32), Res.var 0 (cub.map u32), Res.rd v b.length 1 (b.map u8)] []
      (fun r Γ' H' => ∃ u, r = .tuple #[u, it 2] ∧ Γ' = [] ∧ H' = [Res.row u 0 5 1 []]) := by
  refine Spec.of_args Tryd.func18 rfl Tryd.ntmps18 (by simp) fun w => ?_
  refine JC.know (φ := b.length ≤ 9223372036854775807) (fun w hs => by obtain ⟨_, _, _, _, _, _, h⟩ := hs.rdForm (.tail _ (.tail _ (.head _))); unfold maxLen at h; omega) fun hln => ?_
  refine .seq (.region ?_)
  refine .w (.assign rfl) ?_
  refine .w (.assign rfl) ?_
  refine .nil (.tn (.seq (.seq (.region ?_))))
  refine .w (.move rfl) ?_
  refine .w (.len Tryd.underlying22 rfl) ?_
  refine .w (.bin rfl rfl BinR.gtr_i) ?_
  refine .nil (.tn ?_)
  refine .cn rfl (fun hc1 => ?_) (fun hc1 => ?_)
  · refine .seq (.region ?_)
    refine JO.nilRow 5 1 ?_
    refine .w (.assign rfl) ?_
    refine .w (.assign rfl) ?_
    refine .nil (.tn (.ret (.then_ret ?_)))
    exact .dn [] [Res.row (.slice none 0 0) 0 5 1 []] (res2 rfl (.tmp rfl) (.tmp rfl)) ⟨_, rfl, rfl, rfl⟩
  · exact absurd hc1 (by omega)

theorem f17N_spec (v : Value) (b : B8) (hb : ¬ b.length ≤ 4000) :
    Spec Tryd.prog 17 #[v] [Res.var 1 (sqr.map u32), Res.var 0 (cub.map u32), Res.rd v b.length 1 (b.map u8)] []
      (fun r Γ' H' => ∃ u, r = .tuple #[u, it 2] ∧ Γ' = [] ∧ H' = [Res.row u 0 5 1 []]) := by
  refine Spec.of_args Tryd.func17 rfl Tryd.ntmps17 (by simp) fun w => ?_
  refine JC.know (φ := b.length ≤ 9223372036854775807) (fun w hs => by obtain ⟨_, _, _, _, _, _, h⟩ := hs.rdForm (.tail _ (.tail _ (.head _))); unfold maxLen at h; omega) fun hln => ?_
  refine .seq (.region ?_)
  refine .w (.assign rfl) ?_
  refine .w (.assign rfl) ?_
  refine .nil (.tn (.seq (.seq (.region ?_))))
  refine .w (.move rfl) ?_
  refine .w (.len Tryd.underlying22 rfl) ?_
  refine .w (.bin rfl rfl BinR.gtr_i) ?_
  refine .nil (.tn ?_)
  refine .cn rfl (fun hc1 => ?_) (fun hc1 => ?_)
  · refine .seq (.region ?_)
    refine JO.nilRow 5 1 ?_
    refine .w (.assign rfl) ?_
    refine .w (.assign rfl) ?_
    refine .nil (.tn (.ret (.then_ret ?_)))
    exact .dn [] [Res.row (.slice none 0 0) 0 5 1 []] (res2 rfl (.tmp rfl) (.tmp rfl)) ⟨_, rfl, rfl, rfl⟩
  · exact absurd hc1 (by omega)

theorem f18A_spec (v : Value) (b : B8) : Spec Tryd.prog 18 #[v] [Res.var 1 (sqr.map u32), Res.var 0 (cub.map u32), Res.rd v b.length 1 (b.map u8)] [] (fun r Γ' H' => ∃ u, r = .tuple #[u, it (frE b)] ∧ Γ' = [] ∧ H' = [Res.row u (frF b).length 5 1 ((frF b).map u8)]) := by
  by_cases hb : b.length ≤ 4000
  · have h := f18Ok_spec v b hb
    rw [show frF b = frameB b from if_pos hb, show frE b = 0 from if_pos hb]
    exact h
  · have h := f18N_spec v b hb
    rw [show frF b = [] from if_neg hb, show frE b = 2 from if_neg hb]
    exact h

theorem f17A_spec (v : Value) (b : B8) : Spec Tryd.prog 17 #[v] [Res.var 1 (sqr.map u32), Res.var 0 (cub.map u32), Res.rd v b.length 1 (b.map u8)] [] (fun r Γ' H' => ∃ u, r = .tuple #[u, it (frE b)] ∧ Γ' = [] ∧ H' = [Res.row u (frF b).length 5 1 ((frF b).map u8)]) := by
  by_cases hb : b.length ≤ 4000
  · have h := f17Ok_spec v b hb
    rw [show frF b = frameB b from if_pos hb, show frE b = 0 from if_pos hb]
    exact h
  · have h := f17N_spec v b hb
    rw [show frF b = [] from if_neg hb, show frE b = 2 from if_neg hb]
    exact h

theorem f19N_spec (p : Nat) (v vb : Value) (d b : B8) (n : Int) (hb : ¬ b.length ≤ 4000) :
    Spec Tryd.prog 19 #[(ptr p 0), vb, (it n)] [Res.var 1 (sqr.map u32), Res.var 0 (cub.map u32), Res.rd vb b.length 1 (b.map u8)] [Res.cells p [v] 51, Res.row v (d).length 5 1 ((d).map u8)]
      (fun r Γ' H' => ∃ v', r = it 2 ∧ Γ' = [] ∧ H' = [Res.cells p [v'] 51, Res.row v' (d).length 5 1 ((d).map u8)]) := by
  refine Spec.of_args Tryd.func19 rfl Tryd.ntmps19 (by simp) fun w => ?_
  refine .seq (.region ?_)
  refine .w (.assign rfl) ?_
  refine .nil (.tn (.seq (.region ?_)))
  refine .w (.move rfl) ?_
  refine .c (f18No_spec vb b hb) body_18 ?_
  refine .w (.move rfl) ?_
  refine .w (.extract rfl rfl) ?_
  refine .w (.extract rfl rfl) ?_
  refine .w (.assign rfl) ?_
  refine .w (.assign rfl) ?_
  refine .nil (.tn (.seq (.seq (.region ?_))))
  refine .w (.move rfl) ?_
  refine .w (.as (v' := .bool false) (.bin rfl rfl BinR.eql_i) rfl) ?_
  refine .nil (.tn ?_)
  refine .cf rfl ?_
  refine .skip (.tn (.seq (.region ?_)))
  refine .w (.move rfl) ?_
  refine .w (.assign rfl) ?_
  refine .nil (.tn (.ret ?_))
  exact .dn [] [Res.cells p [v] 51, Res.row v (d).length 5 1 ((d).map u8)] (res1 rfl (.tmp rfl)) ⟨v, rfl, rfl, rfl⟩

theorem f19A_spec (p : Nat) (v vb : Value) (d b : B8) (n : Int) (hd : d.length ≤ 1000000) : Spec Tryd.prog 19 #[(ptr p 0), vb, (it n)] [Res.var 1 (sqr.map u32), Res.var 0 (cub.map u32), Res.rd vb b.length 1 (b.map u8)] [Res.cells p [v] 51, Res.row v (d).length 5 1 ((d).map u8)] (fun r Γ' H' => ∃ v', r = it (frE b) ∧ Γ' = [] ∧ H' = [Res.cells p [v'] 51, Res.row v' (d ++ (frF b).take ((max 0 (min n ((frF b).length : Int))).toNat)).length 5 1 ((d ++ (frF b).take ((max 0 (min n ((frF b).length : Int))).toNat)).map u8)]) := by
  by_cases hb : b.length ≤ 4000
  · have h := f19Ok_spec p v vb d b n hb hd
    rw [show frF b = frameB b from if_pos hb, show frE b = 0 from if_pos hb, frameB_len]
    exact h
  · have h := f19N_spec p v vb d b n hb
    rw [show frF b = [] from if_neg hb, show frE b = 2 from if_neg hb, List.take_nil, List.append_nil]
    exact h

theorem f20N_spec (p : Nat) (v vb : Value) (d b : B8) (hb : ¬ b.length ≤ 4000) :
    Spec Tryd.prog 20 #[(ptr p 0), vb] [Res.var 1 (sqr.map u32), Res.var 0 (cub.map u32), Res.rd vb b.length 1 (b.map u8)] [Res.cells p [v] 51, Res.row v (d).length 5 1 ((d).map u8)]
      (fun r Γ' H' => ∃ v', r = it 2 ∧ Γ' = [] ∧ H' = [Res.cells p [v'] 51, Res.row v' (d).length 5 1 ((d).map u8)]) := by
  refine Spec.of_args Tryd.func20 rfl Tryd.ntmps20 (by simp) fun w => ?_
  refine .seq (.region ?_)
  refine .w (.assign rfl) ?_
  refine .nil (.tn (.seq (.region ?_)))
  refine .w (.move rfl) ?_
  refine .w (.move rfl) ?_
  refine .cb (f19N_spec p v vb d b 4008 hb) body_19 ?_ (h0 := by rintro _ _ _ ⟨_, _, h, _⟩; exact h)
  rintro _ _ ⟨v', rfl, _, rfl⟩
  refine .ap ?_
  refine .w (.assign rfl) ?_
  refine .nil (.tn (.ret ?_))
  exact .dn [] [Res.cells p [v'] 51, Res.row v' (d).length 5 1 ((d).map u8)] (res1 rfl (.tmp rfl)) ⟨_, rfl, rfl, rfl⟩

theorem f20A_spec (p : Nat) (v vb : Value) (d b : B8) (hd : d.length ≤ 1000000) : Spec Tryd.prog 20 #[(ptr p 0), vb] [Res.var 1 (sqr.map u32), Res.var 0 (cub.map u32), Res.rd vb b.length 1 (b.map u8)] [Res.cells p [v] 51, Res.row v (d).length 5 1 ((d).map u8)] (fun r Γ' H' => ∃ v', r = it (frE b) ∧ Γ' = [] ∧ H' = [Res.cells p [v'] 51, Res.row v' (d ++ frF b).length 5 1 ((d ++ frF b).map u8)]) := by
  by_cases hb : b.length ≤ 4000
  · have h := f20Ok_spec p v vb d b hb hd
    rw [show frF b = frameB b from if_pos hb, show frE b = 0 from if_pos hb]
    exact h
  · have h := f20N_spec p v vb d b hb
    rw [show frF b = [] from if_neg hb, show frE b = 2 from if_neg hb, List.append_nil]
    exact h
end Go.Proofs.YtganfkmkapogmaaDoor
