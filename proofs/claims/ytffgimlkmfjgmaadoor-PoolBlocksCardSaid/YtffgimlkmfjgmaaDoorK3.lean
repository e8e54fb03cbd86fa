/- Bundles of one's own: many resources held as one. Conditions that are known. No program in sight. -/
import Derived.Test.YtffgimlkmfjgmaaDoorK2
namespace Go.Proofs.YtffgimlkmfjgmaaDoor
open Go.RowKit
set_option linter.unusedVariables false
def Res.sep (L : RL) : Res where
  fp k := FP L k
  ok w := (∀ r ∈ L, r.ok w) ∧ L.Pairwise (fun (r s : Res) => ∀ k : Nat, r.fp k → ¬ s.fp k)
  loc w w' h ho := ⟨fun r hr => r.loc w w' (fun k hk => h k ⟨r, hr, hk⟩) (ho.1 r hr), ho.2⟩
theorem Sat.sep {Γ L H : RL} {w : World} : Sat Γ (Res.sep L :: H) w ↔ Sat Γ (L ++ H) w := by
  constructor
  · intro h
    have hp := List.pairwise_cons.1 h.hdj
    have h0 := h.hok _ (.head _)
    refine ⟨h.gok, h.glt, ?_, ?_, ?_, ?_⟩
    · intro r hr
      rcases List.mem_append.1 hr with hr | hr
      · exact h0.1 r hr
      · exact h.hok r (.tail _ hr)
    · intro r hr k hk
      rcases List.mem_append.1 hr with hr | hr
      · exact h.hlt _ (.head _) k ⟨r, hr, hk⟩
      · exact h.hlt r (.tail _ hr) k hk
    · refine List.pairwise_append.2 ⟨h0.2, hp.2, fun r hr s hs k hk => hp.1 s hs k ⟨r, hr, hk⟩⟩
    · intro r hr s hs k hk
      rcases List.mem_append.1 hs with hs | hs
      · exact fun hk' => h.ghd r hr _ (.head _) k hk ⟨s, hs, hk'⟩
      · exact h.ghd r hr s (.tail _ hs) k hk
  · intro h
    have hp := List.pairwise_append.1 h.hdj
    refine ⟨h.gok, h.glt, ?_, ?_, ?_, ?_⟩
    · intro r hr
      rcases List.mem_cons.1 hr with rfl | hr
      · exact ⟨fun r hr => h.hok r (List.mem_append.2 (.inl hr)), hp.1⟩
      · exact h.hok r (List.mem_append.2 (.inr hr))
    · intro r hr k hk
      rcases List.mem_cons.1 hr with rfl | hr
      · obtain ⟨s, hs, hk⟩ := hk
        exact h.hlt s (List.mem_append.2 (.inl hs)) k hk
      · exact h.hlt r (List.mem_append.2 (.inr hr)) k hk
    · refine List.pairwise_cons.2 ⟨fun s hs k ⟨r, hr, hk⟩ => hp.2.2 r hr s hs k hk, hp.2.1⟩
    · intro r hr s hs k hk hk'
      rcases List.mem_cons.1 hs with rfl | hs
      · obtain ⟨t, ht, hk'⟩ := hk'
        exact h.ghd r hr t (List.mem_append.2 (.inl ht)) k hk hk'
      · exact h.ghd r hr s (List.mem_append.2 (.inr hs)) k hk hk'
theorem FP_sep {L H : RL} {k : Nat} : FP (Res.sep L :: H) k ↔ FP (L ++ H) k := by
  rw [FP_append]
  constructor
  · rintro ⟨r, hr, hk⟩
    rcases List.mem_cons.1 hr with rfl | hr
    · exact .inl hk
    · exact .inr ⟨r, hr, hk⟩
  · rintro (h | ⟨r, hr, hk⟩)
    · exact ⟨_, .head _, h⟩
    · exact ⟨r, .tail _ hr, hk⟩
theorem St.sep {C : Beg} {Γ L H : RL} {w : World} : St C Γ (Res.sep L :: H) w ↔ St C Γ (L ++ H) w :=
  ⟨fun h => ⟨Sat.sep.1 h.sat, h.stp, fun k hk => h.hsub k (FP_sep.2 hk), h.gsub⟩, fun h => ⟨Sat.sep.2 h.sat, h.stp, fun k hk => h.hsub k (FP_sep.1 hk), h.gsub⟩⟩
theorem St.unsep {C : Beg} {Γ L A B H G H' : RL} {w : World} (h : St C Γ H w) (hp : Pull (Res.sep L) H G) (hl : L.Perm (A ++ B)) (ha : App A (Res.sep B :: G) H') : St C Γ H' w := by
  have h1 := St.sep.1 (h.perm hp.perm)
  have h2 : St C Γ (Res.sep B :: (A ++ G)) w := St.sep.2 (h1.perm (by rw [← List.append_assoc]; exact (hl.trans List.perm_append_comm).append_right G))
  rw [← ha.eq]
  exact h2.perm List.perm_middle.symm
theorem St.resep {C : Beg} {Γ L A B H G : RL} {w : World} (h : St C Γ H w) (hp : Picks (Res.sep B :: A) H G) (hl : L.Perm (A ++ B)) : St C Γ (Res.sep L :: G) w := by
  have h1 : St C Γ (Res.sep B :: (A ++ G)) w := h.perm hp.perm
  exact St.sep.2 ((St.sep.1 h1).perm (by rw [← List.append_assoc]; exact ((hl.trans List.perm_append_comm).append_right G).symm))
section
variable {P : Program} {N : Nat} {C : Beg} {Q : Exit → Act → World → Prop} {E : Env} {Γ H : RL} {ty : TypeId} {ops : Array Oper} {rest : List Oper}
theorem JO.us {l : List Oper} {L A B G H' : RL} (hl : L.Perm (A ++ B)) (k : JO P N C ops l Q E Γ H') (hp : Pull (Res.sep L) H G := by (repeat (first | exact Pull.here _ _ | apply Pull.there)); first | done | fail)
    (ha : App A (Res.sep B :: G) H' := by (repeat (first | exact App.nil _ | apply App.cons)); first | done | fail) : JO P N C ops l Q E Γ H := fun hn a w he hs => k hn a w he (hs.unsep hp hl ha)
theorem JO.rs {l : List Oper} {L A B G : RL} (hl : L.Perm (A ++ B)) (k : JO P N C ops l Q E Γ (Res.sep L :: G)) (hp : Picks (Res.sep B :: A) H G := by (repeat (first | exact Picks.nil _ | apply Picks.cons | exact Pull.here _ _ | apply Pull.there)); first | done | fail) : JO P N C ops l Q E Γ H := fun hn a w he hs => k hn a w he (hs.resep hp hl)
theorem JC.us {c : Code} {L A B G H' : RL} (hl : L.Perm (A ++ B)) (k : JC P N C c Q E Γ H') (hp : Pull (Res.sep L) H G := by (repeat (first | exact Pull.here _ _ | apply Pull.there)); first | done | fail)
    (ha : App A (Res.sep B :: G) H' := by (repeat (first | exact App.nil _ | apply App.cons)); first | done | fail) : JC P N C c Q E Γ H := fun hn a w he hs => k hn a w he (hs.unsep hp hl ha)
theorem JC.rs {c : Code} {L A B G : RL} (hl : L.Perm (A ++ B)) (k : JC P N C c Q E Γ (Res.sep L :: G)) (hp : Picks (Res.sep B :: A) H G := by (repeat (first | exact Picks.nil _ | apply Picks.cons | exact Pull.here _ _ | apply Pull.there)); first | done | fail) : JC P N C c Q E Γ H := fun hn a w he hs => k hn a w he (hs.resep hp hl)
theorem JQ.rs {e : Exit} {L A B G : RL} (hl : L.Perm (A ++ B)) (k : JQ N C e Q E Γ (Res.sep L :: G)) (hp : Picks (Res.sep B :: A) H G := by (repeat (first | exact Picks.nil _ | apply Picks.cons | exact Pull.here _ _ | apply Pull.there)); first | done | fail) : JQ N C e Q E Γ H := fun hn a w he hs => k hn a w he (hs.resep hp hl)
theorem JQ.sp0 {e : Exit} (k : JQ N C e Q E Γ (Res.sep [] :: H)) : JQ N C e Q E Γ H := fun hn a w he hs => k hn a w he (St.sep.2 hs)
theorem JO.sp0 {l : List Oper} (k : JO P N C ops l Q E Γ (Res.sep [] :: H)) : JO P N C ops l Q E Γ H := fun hn a w he hs => k hn a w he (St.sep.2 hs)
theorem JR.us {T M U : Nat → Bool} {Γ0 H0 : RL} {l : OT} {L A B G H' : RL} (hl : L.Perm (A ++ B)) (k : JR P N C ops T M U Γ0 H0 l Q E Γ H') (hp : Pull (Res.sep L) H G := by (repeat (first | exact Pull.here _ _ | apply Pull.there)); first | done | fail)
    (ha : App A (Res.sep B :: G) H' := by (repeat (first | exact App.nil _ | apply App.cons)); first | done | fail) : JR P N C ops T M U Γ0 H0 l Q E Γ H := fun hn a w he hs => k hn a w he (hs.unsep hp hl ha)
theorem JR.rs {T M U : Nat → Bool} {Γ0 H0 : RL} {l : OT} {L A B G : RL} (hl : L.Perm (A ++ B)) (k : JR P N C ops T M U Γ0 H0 l Q E Γ (Res.sep L :: G)) (hp : Picks (Res.sep B :: A) H G := by (repeat (first | exact Picks.nil _ | apply Picks.cons | exact Pull.here _ _ | apply Pull.there)); first | done | fail) : JR P N C ops T M U Γ0 H0 l Q E Γ H := fun hn a w he hs => k hn a w he (hs.resep hp hl)
/-- What is held says something, and is said otherwise. -/
theorem JO.cv {l : List Oper} {r s : Res} {H' : RL} (hu : Upd H r s H') (hf : ∀ k, s.fp k ↔ r.fp k) (ho : ∀ w, r.ok w → s.ok w) (k : JO P N C ops l Q E Γ H') : JO P N C ops l Q E Γ H := fun hn a w he hs => by
  obtain ⟨G, h1, h2⟩ := hu.ex
  exact k hn a w he (((hs.perm h1).conv (fun k => (hf k).1) (ho w)).perm h2.symm)
theorem Yv.notk {T : TypeId} {x : Operand} {e b : Bool} (hx : ev E x = some (.bool e)) (he : e = b) : Yv P N C E Γ H (.unOp .not T x) ty (.bool (!b)) := by subst he; exact .not hx
theorem JC.k1 {c : Operand} {x y : Code} {e : Bool} (hc : ev E c = some (.bool e)) (he : e = true) (ht : JC P N C x Q E Γ H) : JC P N C (.cond c x y) Q E Γ H := by subst he; exact .ct hc ht
theorem JC.k0 {c : Operand} {x y : Code} {e : Bool} (hc : ev E c = some (.bool e)) (he : e = false) (hf : JC P N C y Q E Γ H) : JC P N C (.cond c x y) Q E Γ H := by subst he; exact .cf hc hf
end
end Go.Proofs.YtffgimlkmfjgmaaDoor
