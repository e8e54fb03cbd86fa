/- Texts of ours, gathered: E25 ZC D8s P17 E8s P17p R8 E26 R1 R2 E27 ZT O1 B. -/
import Derived.Test.YtmhiapebljfebaaGreatDoorProg
import Derived.Tactics
import Derived.Tactics2
import Derived.Defers
import Derived.Laws.Pointers
import Derived.Laws.LoneSync
import Derived.RegionTactic
import Derived.RegionCalls
import Derived.ChangeAlike
import Derived.KernelRfl
import Derived.Test.YtmhiapebljfebaaGreatDoorRows
import Derived.Test.YtmhiapebljfebaaGreatDoorT04
/- Nobody is at fault without a listed one: what stays. No program in sight. -/
namespace Go.Proofs.YtmhiapebljfebaaGreatDoor
open Go.RowKit
set_option linter.unusedVariables false
structure SX where
 at_ : Int
 kind : Int
 frm : Int
 dealer : Int
 slot : Int
 A : Option Addr
 n : Nat
 c : Nat
 com : List Nat
 val : Nat
def SX.tx (s : SX) : TX := ⟨s.kind, s.frm, s.dealer, s.slot, .slice s.A s.n s.c, s.com, s.val⟩
def stpC (s : SX) : List Value := it s.at_ :: txC s.tx
instance : FS stpC 10 := ⟨fun _ => rfl, fun a v hv => by
 simp only [stpC, txC, SX.tx, wd, List.map_cons, List.map_nil, List.cons_append, List.nil_append, List.mem_cons, List.not_mem_nil, or_false] at hv
 rcases hv with rfl | rfl | rfl | rfl | rfl | rfl | rfl | rfl | rfl | rfl <;> rfl⟩
@[simp] theorem stpC_len (s : SX) : (stpC s).length = 10 := rfl
structure SXok (s : SX) : Prop where
 at_ : s.at_ ≤ 9223372036854775807
 com : ∀ a ∈ s.com, a < 115792089237316195423570985008687907853269984665640564039457584007913129639936
 val : s.val < 115792089237316195423570985008687907853269984665640564039457584007913129639936
theorem QualP.mono {own : List Int} {d d' : DL} (h : QualP own d) (h1 : ∀ k, d.acked k = true → d'.acked k = true) (h2 : ∀ k, d.opend k = true → d'.opend k = true) (h3 : d'.com = d.com) : QualP own d' :=
 ⟨fun j hj => (h.1 j hj).imp (h1 _) (h2 _), by rw [h3]; exact h.2⟩
theorem acked_put (d : DL) (m : MM Int Bool) (k j : Int) (h : (m.get j).getD false = true) : ((m.put k true).get j).getD false = true := by
 rw [MM.get_put]
 split
 ·rfl
 ·exact h
theorem qual_step {z : ES} {d : DL} {t : TX} {hv : t.val < 115792089237316195423570985008687907853269984665640564039457584007913129639936} {i : Nat} {cx : Value} (h : QualP z.own d) : QualP z.own (kindN d t hv i (kindE z d t i) cx) := by
 unfold kindN kindE
 split
 ·have hc := h.2
  unfold dealN
  have he : dealE z.γ z.cfg.T (z.S.getD t.frm.toNat 0) d t.com = 51 ∨ dealE z.γ z.cfg.T (z.S.getD t.frm.toNat 0) d t.com = 13 := by
   unfold dealE
   split
   ·exact .inl rfl
   ·rw [if_pos (.inl hc)]; exact .inr rfl
  rw [if_neg (by omega), if_neg (by omega)]
  exact h
 ·split
  ·unfold ackN; split
   ·exact h.mono (fun k hk => acked_put d d.acks _ k hk) (fun _ h => h) rfl
   ·exact h
  ·split
   ·unfold openN; split
    ·exact h.mono (fun _ h => h) (fun _ h => h) rfl
    ·split
     ·exact h.mono (fun _ h => h) (fun k hk => acked_put d d.opened _ k hk) rfl
     ·exact h
   ·split
    ·unfold revN; split
     ·exact h.mono (fun _ h => h) (fun _ h => h) rfl
     ·exact h
    ·unfold postN; split
     ·exact h.mono (fun _ h => h) (fun _ h => h) rfl
     ·exact h
structure FOk (own : List Int) (d : DL) (a r : Bool) (l : Int) : Prop where
 act : a = false → d.com = [] ∧ d.mal = false
 fail : d.fail = true → 0 < d.com.length
 mal : 0 < d.com.length → d.mal = false
 rev : r = true → d.rev = true ∧ QualP own d
 l1 : l = 1 → d.mal = true
 l2 : l = 2 → d.fail = true
def chkF (a r : Bool) (l f : Int) : Prop := 0 ≤ f ∧ f ≤ 4 ∧ (a = false → f = 0) ∧ (l = 1 ∨ l = 2 → f = l) ∧ (r = true → f = 0 ∨ f = 2)
theorem FOk.chk {own : List Int} {d : DL} {a r : Bool} {l : Int} (h : FOk own d a r l) : chkF a r l (faultE own d) := by
 refine ⟨?_, ?_, fun ha => ?_, fun hl => ?_, fun hr => ?_⟩
 ·unfold faultE; repeat' split
  all_goals decide
 ·unfold faultE; repeat' split
  all_goals decide
 ·obtain ⟨h1, h2⟩ := h.act ha
  have h0 : ¬ 0 < d.com.length := by rw [h1]; decide
  have h3 : ¬ d.fail = true := fun hf => h0 (h.fail hf)
  unfold faultE
  rw [if_neg (by rw [h2]; decide), if_neg h3, if_neg (fun hh => h0 hh.1), if_neg (fun hh => h0 hh.1)]
 ·rcases hl with rfl | rfl
  ·unfold faultE; rw [if_pos (h.l1 rfl)]
  ·have h1 := h.l2 rfl
   unfold faultE; rw [if_neg (by rw [h.mal (h.fail h1)]; decide), if_pos h1]
 ·obtain ⟨h1, h2⟩ := h.rev hr
  unfold faultE
  rw [if_neg (by rw [h.mal h2.2]; decide)]
  split
  ·exact .inr rfl
  ·rw [if_neg (fun hh => hh.2 h2), if_neg (fun hh => by rw [h1] at hh; cases hh.2)]
   exact .inl rfl
theorem FOk.now {own : List Int} {d : DL} {a r : Bool} {l : Int} (h : FOk own d a r l) : FOk own d a r (faultE own d) := by
 refine ⟨h.act, h.fail, h.mal, h.rev, fun he => ?_, fun he => ?_⟩
 ·unfold faultE at he
  split at he
  ·assumption
  ·split at he
   ·cases he
   ·split at he
    ·cases he
    ·split at he <;> cases he
 ·unfold faultE at he
  split at he
  ·cases he
  ·split at he
   ·assumption
   ·split at he
    ·cases he
    ·split at he <;> cases he
theorem FOk.weak {own : List Int} {d : DL} {a r a' r' : Bool} {l : Int} (h : FOk own d a r l) (ha : a' = false → a = false) (hr : r' = true → r = true) : FOk own d a' r' l :=
 ⟨fun x => h.act (ha x), h.fail, h.mal, fun x => h.rev (hr x), h.l1, h.l2⟩
theorem FOk.step {z : ES} {d : DL} {a r a' r' : Bool} {l : Int} (h : FOk z.own d a r l) {t : TX} {hv : t.val < 115792089237316195423570985008687907853269984665640564039457584007913129639936} {i : Nat} {cx : Value}
  (ha : a' = false → a = false ∧ i ≠ 0) (hr : r' = true → r = true ∨ i = 3 ∧ kindE z d t i = 0) : FOk z.own (kindN d t hv i (kindE z d t i) cx) a' r' l := by
 have hq : QualP z.own d → QualP z.own (kindN d t hv i (kindE z d t i) cx) := qual_step
 by_cases h0 : i = 0
 ·subst h0
  have hrr : r' = true → r = true := fun x => (hr x).resolve_right (fun y => by cases y.1)
  have e : kindN d t hv 0 (kindE z d t 0) cx = dealN d (dealE z.γ z.cfg.T (z.S.getD t.frm.toNat 0) d t.com) t.com cx := rfl
  rw [e] at hq ⊢
  have h1 : dealE z.γ z.cfg.T (z.S.getD t.frm.toNat 0) d t.com = 31 → d.com = [] := by
   intro h1
   unfold dealE at h1
   split at h1
   ·cases h1
   ·split at h1
    ·cases h1
    ·rename_i hh; exact List.length_eq_zero_iff.1 (by omega)
  have h2 : dealE z.γ z.cfg.T (z.S.getD t.frm.toNat 0) d t.com = 0 → d.com = [] ∧ d.mal = false := by
   intro h1
   unfold dealE at h1
   split at h1
   ·cases h1
   ·split at h1
    ·cases h1
    ·rename_i hh; exact ⟨List.length_eq_zero_iff.1 (by omega), by cases hm : d.mal; rfl; exact absurd (.inr hm) hh⟩
  have hnf : d.com = [] → d.fail = false := fun hc => by
   cases hf : d.fail
   ·rfl
   ·have := h.fail hf; rw [hc] at this; cases this
  have hnr : d.com = [] → r' = true → False := fun hc x => by have := (h.rev (hrr x)).2.2; rw [hc] at this; cases this
  unfold dealN at hq ⊢
  split
  ·rename_i he
   have hc := h1 he
   exact ⟨fun x => absurd rfl (ha x).2, fun hf => (by rw [show d.fail = false from hnf hc] at hf; cases hf), fun hl => (by rw [show d.com = [] from hc] at hl; cases hl), fun x => (hnr hc x).elim, fun _ => rfl, fun hl => (by have := h.l2 hl; rw [hnf hc] at this; cases this)⟩
  ·split
   ·rename_i he
    obtain ⟨hc, hm⟩ := h2 he
    exact ⟨fun x => absurd rfl (ha x).2, fun hf => (by rw [show d.fail = false from hnf hc] at hf; cases hf), fun _ => hm, fun x => (hnr hc x).elim, fun hl => (by have := h.l1 hl; rw [hm] at this; cases this), fun hl => (by have := h.l2 hl; rw [hnf hc] at this; cases this)⟩
   ·exact h.weak (fun x => (ha x).1) hrr
 ·have ha' : a' = false → a = false := fun x => (ha x).1
  unfold kindN at hq ⊢
  rw [if_neg h0] at hq ⊢
  by_cases h1 : i = 1
  ·rw [if_pos h1] at hq ⊢
   have hrr : r' = true → r = true := fun x => (hr x).resolve_right (fun y => by omega)
   unfold ackN at hq ⊢
   split
   ·rename_i he
    rw [if_pos he] at hq
    exact ⟨fun x => h.act (ha' x), h.fail, h.mal, fun x => ⟨(h.rev (hrr x)).1, hq (h.rev (hrr x)).2⟩, h.l1, h.l2⟩
   ·exact h.weak ha' hrr
  rw [if_neg h1] at hq ⊢
  by_cases h2 : i = 2
  ·rw [if_pos h2] at hq ⊢
   have hrr : r' = true → r = true := fun x => (hr x).resolve_right (fun y => by omega)
   have hd : kindE z d t i = 40 → 0 < d.com.length := by
    intro he
    unfold kindE at he
    rw [if_neg h0, if_neg h1, if_pos h2] at he
    unfold openE at he
    split at he
    ·cases he
    ·rename_i hh; exact Classical.not_not.1 hh
   unfold openN at hq ⊢
   split
   ·rename_i he
    rw [if_pos he] at hq
    exact ⟨fun x => h.act (ha' x), fun _ => hd he, h.mal, fun x => ⟨(h.rev (hrr x)).1, hq (h.rev (hrr x)).2⟩, h.l1, fun _ => rfl⟩
   ·rename_i he
    rw [if_neg he] at hq
    split
    ·rename_i he2
     rw [if_pos he2] at hq
     exact ⟨fun x => h.act (ha' x), h.fail, h.mal, fun x => ⟨(h.rev (hrr x)).1, hq (h.rev (hrr x)).2⟩, h.l1, h.l2⟩
    ·exact h.weak ha' hrr
  rw [if_neg h2] at hq ⊢
  by_cases h3 : i = 3
  ·rw [if_pos h3] at hq ⊢
   have hqr : kindE z d t i = 0 → QualP z.own d := by
    intro he
    unfold kindE at he
    rw [if_neg h0, if_neg h1, if_neg h2, if_pos h3] at he
    unfold revE at he
    split at he
    ·cases he
    ·rename_i hh; exact Classical.not_not.1 hh
   unfold revN at hq ⊢
   split
   ·rename_i he
    rw [if_pos he] at hq
    exact ⟨fun x => h.act (ha' x), h.fail, h.mal, fun _ => ⟨rfl, hq (hqr he)⟩, h.l1, h.l2⟩
   ·rename_i he
    exact h.weak ha' (fun x => (hr x).resolve_right (fun y => he y.2))
  rw [if_neg h3] at hq ⊢
  have hrr : r' = true → r = true := fun x => (hr x).resolve_right (fun y => by omega)
  unfold postN at hq ⊢
  split
  ·rename_i he
   rw [if_pos he] at hq
   exact ⟨fun x => h.act (ha' x), h.fail, h.mal, fun x => ⟨(h.rev (hrr x)).1, hq (h.rev (hrr x)).2⟩, h.l1, h.l2⟩
  ·exact h.weak ha' hrr
def actT (A : List Bool) (t : TX) (n : Nat) : List Bool := if 0 ≤ t.frm ∧ t.frm < (n : Int) then A.set t.frm.toNat (A.getD t.frm.toNat false || decide (t.kind = 1)) else A
def revT (R : List Bool) (t : TX) (e : Int) (n : Nat) : List Bool := if 0 ≤ t.frm ∧ t.frm < (n : Int) then R.set t.frm.toNat (R.getD t.frm.toNat false || (decide (t.kind = 4) && decide (e = 0))) else R
@[simp] theorem act_len (A : List Bool) (t : TX) (n : Nat) : (actT A t n).length = A.length := by unfold actT; split <;> simp
@[simp] theorem rev_len (R : List Bool) (t : TX) (e : Int) (n : Nat) : (revT R t e n).length = R.length := by unfold revT; split <;> simp
theorem getD_bset {A : List Bool} {i k : Nat} {v : Bool} : (A.set i v).getD k false = if k = i ∧ i < A.length then v else A.getD k false := by
 rw [List.getD_eq_getElem?_getD, List.getElem?_set]
 by_cases h : i = k
 ·subst h
  rw [if_pos rfl]
  by_cases h1 : i < A.length
  ·rw [if_pos h1, if_pos ⟨rfl, h1⟩]; rfl
  ·rw [if_neg h1, if_neg (fun hh => h1 hh.2), List.getD_eq_getElem?_getD, List.getElem?_eq_none (by omega)]
 ·rw [if_neg h, if_neg (fun hh => h hh.1.symm), List.getD_eq_getElem?_getD]
theorem act_false {A : List Bool} {t : TX} {n k : Nat} (hl : A.length = n) (h : (actT A t n).getD k false = false) : A.getD k false = false ∧ ((k : Int) = t.frm → k < n → t.kind ≠ 1) := by
 unfold actT at h
 split at h
 ·rename_i hf
  rw [getD_bset] at h
  split at h
  ·rename_i hk
   rw [Bool.or_eq_false_iff] at h
   exact ⟨by rw [hk.1]; exact h.1, fun _ _ => of_decide_eq_false h.2⟩
  ·rename_i hk
   exact ⟨h, fun h1 h2 => (hk ⟨by omega, by omega⟩).elim⟩
 ·rename_i hf
  exact ⟨h, fun h1 h2 => (hf ⟨by omega, by omega⟩).elim⟩
theorem rev_true {R : List Bool} {t : TX} {e : Int} {n k : Nat} (h : (revT R t e n).getD k false = true) : R.getD k false = true ∨ ((k : Int) = t.frm ∧ t.kind = 4 ∧ e = 0) := by
 unfold revT at h
 split at h
 ·rename_i hf
  rw [getD_bset] at h
  split at h
  ·rename_i hk
   rw [Bool.or_eq_true, Bool.and_eq_true] at h
   rcases h with h | h
   ·exact .inl (by rw [hk.1]; exact h)
   ·exact .inr ⟨by omega, of_decide_eq_true h.1, of_decide_eq_true h.2⟩
  ·exact .inl h
 ·exact .inl h
structure InvF (own : List Int) (ds : List DL) (A R : List Bool) (L : List Int) : Prop where
 a : A.length = ds.length
 r : R.length = ds.length
 l : L.length = ds.length
 ok : ∀ k, k < ds.length → FOk own (ds.getD k DZ) (A.getD k false) (R.getD k false) (L.getD k 0)
theorem getD_dset {ds : List DL} {i k : Nat} {v : DL} (hk : k < ds.length) : (ds.set i v).getD k DZ = if k = i then v else ds.getD k DZ := by
 rw [List.getD_eq_getElem?_getD, List.getElem?_set]
 by_cases h : i = k
 ·subst h
  rw [if_pos rfl, if_pos hk, if_pos rfl]; rfl
 ·rw [if_neg h, if_neg (fun hh => h hh.symm), List.getD_eq_getElem?_getD]
theorem InvF.step {z : ES} {ds : List DL} {A R : List Bool} {L : List Int} (h : InvF z.own ds A R L) (hz : EOk z ds) (a : Int) (t : TX) (hv : t.val < 115792089237316195423570985008687907853269984665640564039457584007913129639936) (cx : Value) (n : Nat) (hn : n = ds.length) :
  InvF z.own (applyN z ds a t hv cx) (actT A t n) (revT R t (applyE z ds a t) n) L := by
 subst hn
 have hl := apply_len z ds a t hv cx
 refine ⟨by rw [act_len, hl, h.a], by rw [rev_len, hl, h.r], by rw [hl, h.l], fun k hk => ?_⟩
 rw [hl] at hk
 have hf := h.ok k hk
 have hkeep : applyE z ds a t ≠ 0 → FOk z.own (ds.getD k DZ) ((actT A t ds.length).getD k false) ((revT R t (applyE z ds a t) ds.length).getD k false) (L.getD k 0) := fun he =>
  hf.weak (fun x => (act_false h.a x).1) (fun x => (rev_true x).resolve_right fun y => he y.2.2)
 by_cases h1 : Bad1 z t
 ·have e1 : applyE z ds a t = 1 := if_pos h1
  have e2 : applyN z ds a t hv cx = ds := if_pos h1
  rw [e2]; exact hkeep (by rw [e1]; decide)
 by_cases h2 : Bad2 z t
 ·have e1 : applyE z ds a t = 1 := by rw [applyE, if_neg h1, if_pos h2]
  have e2 : applyN z ds a t hv cx = ds := by rw [applyN, if_neg h1, if_pos h2]
  rw [e2]; exact hkeep (by rw [e1]; decide)
 by_cases h3 : Bad3 z a t
 ·have e1 : applyE z ds a t = 70 := by rw [applyE, if_neg h1, if_neg h2, if_pos h3]
  have e2 : applyN z ds a t hv cx = ds := by rw [applyN, if_neg h1, if_neg h2, if_pos h3]
  rw [e2]; exact hkeep (by rw [e1]; decide)
 have e1 : applyE z ds a t = kindE z (ds.getD (whoK t) DZ) t (t.kind - 1).toNat := by rw [applyE, if_neg h1, if_neg h2, if_neg h3]
 have e2 : applyN z ds a t hv cx = ds.set (whoK t) (kindN (ds.getD (whoK t) DZ) t hv (t.kind - 1).toNat (kindE z (ds.getD (whoK t) DZ) t (t.kind - 1).toNat) cx) := by rw [applyN, if_neg h1, if_neg h2, if_neg h3]
 rw [e2, getD_dset hk]
 unfold Bad1 at h1
 split
 ·rename_i hkw
  subst hkw
  refine hf.step (fun x => ?_) (fun x => ?_)
  ·obtain ⟨y1, y2⟩ := act_false h.a x
   refine ⟨y1, fun hi => ?_⟩
   have hk1 : t.kind = 1 := by omega
   exact y2 (by unfold whoK; rw [if_neg (by omega)]; omega) hk hk1
  ·rcases rev_true x with y | ⟨y1, y2, y3⟩
   ·exact .inl y
   ·exact .inr ⟨by omega, by rw [← e1]; exact y3⟩
 ·rename_i hkw
  refine hf.weak (fun x => (act_false h.a x).1) (fun x => (rev_true x).resolve_right fun y => hkw ?_)
  unfold whoK; rw [if_neg (by omega)]; omega
theorem InvF.now {own : List Int} {ds : List DL} {A R : List Bool} {L : List Int} (h : InvF own ds A R L) : InvF own ds A R (faultL own ds) :=
 ⟨h.a, h.r, by simp [faultL], fun k hk => by
  have := (h.ok k hk).now
  rwa [show (faultL own ds).getD k 0 = faultE own (ds.getD k DZ) from by
   unfold faultL
   rw [List.getD_eq_getElem?_getD, List.getElem?_map, List.getD_eq_getElem?_getD, List.getElem?_eq_getElem hk]; rfl]⟩
theorem InvF.start {own : List Int} {ds : List DL} (hf : ∀ d ∈ ds, Fresh d) : InvF own ds (List.replicate ds.length false) (List.replicate ds.length false) (List.replicate ds.length 0) := by
 refine ⟨by simp, by simp, by simp, fun k hk => ?_⟩
 have e := hf _ (ds_mem hk)
 have b : (List.replicate ds.length false).getD k false = false := by rw [List.getD_eq_getElem?_getD, List.getElem?_replicate]; split <;> rfl
 have i : (List.replicate ds.length (0 : Int)).getD k 0 = 0 := by rw [List.getD_eq_getElem?_getD, List.getElem?_replicate]; split <;> rfl
 rw [b, i, e]
 exact ⟨fun _ => ⟨rfl, rfl⟩, fun h => (by cases h), fun h => (by cases h), fun h => (by cases h), fun h => (by cases h), fun h => (by cases h)⟩
end Go.Proofs.YtmhiapebljfebaaGreatDoor

/- Numbers of four words, what is decided, steps, a Config, as_ they come in. -/
namespace Go.Proofs.YtmhiapebljfebaaGreatDoor
open Go.ChangeShapes Go.WideShapes Go.ChangeAt Go.RowKit
set_option maxRecDepth 100000
variable {H : Type} {enc : TypeId × Value → H} {w : World}
theorem wd_four (a b c d : W64) : [a, b, c, d] = wd (a.toNat + b.toNat * 18446744073709551616 + c.toNat * 340282366920938463463374607431768211456 + d.toNat * 6277101735386680763835789423207666416102355444464034512896) ∧ a.toNat + b.toNat * 18446744073709551616 + c.toNat * 340282366920938463463374607431768211456 + d.toNat * 6277101735386680763835789423207666416102355444464034512896 < 115792089237316195423570985008687907853269984665640564039457584007913129639936 := by
 have ha := a.isLt; have hb := b.isLt; have hc := c.isLt; have hd := d.isLt
 refine ⟨?_, by omega⟩
 have e : ∀ (x : W64) (n : Nat), n % 18446744073709551616 = x.toNat → x = BitVec.ofNat 64 n := fun x n h => BitVec.eq_of_toNat_eq (by rw [BitVec.toNat_ofNat]; exact h.symm)
 unfold wd
 rw [← e a _ (by omega), ← e b _ (by omega), ← e c _ (by omega), ← e d _ (by omega)]
theorem came_nat {cs : List Value} (h : Came enc Tryz.prog w 40 cs) : ∃ n : Nat, cs = natC n ∧ n < 115792089237316195423570985008687907853269984665640564039457584007913129639936 := by
 obtain ⟨hl, he⟩ := h.array Tryz.underlying40
 have hl : cs.length = 4 := hl.trans (by kernel_rfl)
 have h1 : Tryz.prog.cellsOf 22 = 1 := by kernel_rfl
 rw [h1] at he
 match cs, hl with
 | [c0, c1, c2, c3], _ =>
  obtain ⟨a, ha⟩ := Came.u64 Tryz.underlying22 (he 0 (by decide))
  obtain ⟨b, hb⟩ := Came.u64 Tryz.underlying22 (he 1 (by decide))
  obtain ⟨c, hc⟩ := Came.u64 Tryz.underlying22 (he 2 (by decide))
  obtain ⟨d, hd⟩ := Came.u64 Tryz.underlying22 (he 3 (by decide))
  obtain rfl : c0 = u64 a := by simpa using ha
  obtain rfl : c1 = u64 b := by simpa using hb
  obtain rfl : c2 = u64 c := by simpa using hc
  obtain rfl : c3 = u64 d := by simpa using hd
  obtain ⟨e1, e2⟩ := wd_four a b c d
  exact ⟨_, by unfold natC; rw [← e1]; rfl, e2⟩
theorem came_nats {v : Value} (h : Came enc Tryz.prog w 38 [v]) : ∃ l : List Nat, IsRd w v l.length 4 (bks natC l) ∧ ∀ a ∈ l, a < 115792089237316195423570985008687907853269984665640564039457584007913129639936 := by
 obtain ⟨n, xs, h1, h2⟩ := h.slice (size := 4) Tryz.underlying38 (by kernel_rfl) (by decide)
 obtain ⟨l, rfl, rfl, h3⟩ := pieces (f := natC) (p := fun a => a < 115792089237316195423570985008687907853269984665640564039457584007913129639936) (s := 4) (by decide) n xs (by obtain ⟨_, _, _, hl, _⟩ := h1; exact hl) (fun i hi => came_nat (h2 i hi))
 exact ⟨l, h1, h3⟩
theorem came_tx {cs : List Value} (h : Came enc Tryz.prog w 42 cs) : ∃ s : SX, cs = txC s.tx ∧ s.at_ = 0 ∧ (∀ a ∈ s.com, a < 115792089237316195423570985008687907853269984665640564039457584007913129639936) ∧ s.val < 115792089237316195423570985008687907853269984665640564039457584007913129639936 ∧ IsRd w s.tx.v s.com.length 4 (bks natC s.com) := by
 obtain ⟨hl, hf⟩ := h.struct Tryz.underlying42
 have hl : cs.length = 9 := hl.trans (by kernel_rfl)
 have s1 : Tryz.prog.cellsOf 3 = 1 := by kernel_rfl
 have s2 : Tryz.prog.cellsOf 38 = 1 := by kernel_rfl
 have s4 : Tryz.prog.cellsOf 40 = 4 := by kernel_rfl
 obtain ⟨k0, hk0, _⟩ := Came.it Tryz.underlying3 (by have h0 : Came enc Tryz.prog w 3 ((cs.drop 0).take (Tryz.prog.cellsOf 3)) := hf 0 _ rfl; rw [s1] at h0; exact h0)
 obtain ⟨k1, hk1, _⟩ := Came.it Tryz.underlying3 (by have h0 : Came enc Tryz.prog w 3 ((cs.drop 1).take (Tryz.prog.cellsOf 3)) := hf 1 _ rfl; rw [s1] at h0; exact h0)
 obtain ⟨k2, hk2, _⟩ := Came.it Tryz.underlying3 (by have h0 : Came enc Tryz.prog w 3 ((cs.drop 2).take (Tryz.prog.cellsOf 3)) := hf 2 _ rfl; rw [s1] at h0; exact h0)
 obtain ⟨k3, hk3, _⟩ := Came.it Tryz.underlying3 (by have h0 : Came enc Tryz.prog w 3 ((cs.drop 3).take (Tryz.prog.cellsOf 3)) := hf 3 _ rfl; rw [s1] at h0; exact h0)
 have h4 : Came enc Tryz.prog w 38 ((cs.drop 4).take 1) := by have h0 : Came enc Tryz.prog w 38 ((cs.drop 4).take (Tryz.prog.cellsOf 38)) := hf 4 _ rfl; rw [s2] at h0; exact h0
 obtain ⟨n, hn, hn2⟩ := came_nat (by have h0 : Came enc Tryz.prog w 40 ((cs.drop 5).take (Tryz.prog.cellsOf 40)) := hf 5 _ rfl; rw [s4] at h0; exact h0)
 match cs, hl with
 | [c0, c1, c2, c3, c4, c5, c6, c7, c8], _ =>
  obtain ⟨b, hb, hb2⟩ := came_nats h4
  have hb3 := hb
  obtain ⟨A, c, rfl, _⟩ := hb
  obtain rfl : c0 = it k0 := by simpa using hk0
  obtain rfl : c1 = it k1 := by simpa using hk1
  obtain rfl : c2 = it k2 := by simpa using hk2
  obtain rfl : c3 = it k3 := by simpa using hk3
  have hn' : [c5, c6, c7, c8] = natC n := by simpa using hn
  exact ⟨⟨0, k0, k1, k2, k3, A, b.length, c, b, n⟩, by show _ :: _ :: _ :: _ :: _ :: [c5, c6, c7, c8] = _; rw [hn']; rfl, rfl, hb2, hn2, hb3⟩
theorem came_cfg {cs : List Value} (h : Came enc Tryz.prog w 24 cs) : ∃ c : Cfg, cs = cfgC c := by
 obtain ⟨hl, hf⟩ := h.struct Tryz.underlying24
 have hl : cs.length = 7 := hl.trans (by kernel_rfl)
 have s1 : Tryz.prog.cellsOf 3 = 1 := by kernel_rfl
 have s2 : Tryz.prog.cellsOf 22 = 1 := by kernel_rfl
 have hI : ∀ i, i < 6 → ∃ k : Int, (cs.drop i).take 1 = [it k] := fun i hi => by
  have h0 : Came enc Tryz.prog w 3 ((cs.drop i).take (Tryz.prog.cellsOf 3)) := by
   rcases (show i = 0 ∨ i = 1 ∨ i = 2 ∨ i = 3 ∨ i = 4 ∨ i = 5 by omega) with rfl | rfl | rfl | rfl | rfl | rfl
   ·exact hf 0 _ rfl
   ·exact hf 1 _ rfl
   ·exact hf 2 _ rfl
   ·exact hf 3 _ rfl
   ·exact hf 4 _ rfl
   ·exact hf 5 _ rfl
  rw [s1] at h0
  obtain ⟨k, hk, _⟩ := Came.it Tryz.underlying3 h0
  exact ⟨k, hk⟩
 obtain ⟨x, hx⟩ := Came.u64 Tryz.underlying22 (by have h0 : Came enc Tryz.prog w 22 ((cs.drop 6).take (Tryz.prog.cellsOf 22)) := hf 6 _ rfl; rw [s2] at h0; exact h0)
 obtain ⟨k0, h0⟩ := hI 0 (by decide)
 obtain ⟨k1, h1⟩ := hI 1 (by decide)
 obtain ⟨k2, h2⟩ := hI 2 (by decide)
 obtain ⟨k3, h3⟩ := hI 3 (by decide)
 obtain ⟨k4, h4⟩ := hI 4 (by decide)
 obtain ⟨k5, h5⟩ := hI 5 (by decide)
 match cs, hl with
 | [c0, c1, c2, c3, c4, c5, c6], _ =>
  obtain rfl : c0 = it k0 := by simpa using h0
  obtain rfl : c1 = it k1 := by simpa using h1
  obtain rfl : c2 = it k2 := by simpa using h2
  obtain rfl : c3 = it k3 := by simpa using h3
  obtain rfl : c4 = it k4 := by simpa using h4
  obtain rfl : c5 = it k5 := by simpa using h5
  obtain rfl : c6 = u64 x := by simpa using hx
  exact ⟨⟨k0, k1, k2, k3, k4, k5, x⟩, rfl⟩
theorem open_cfg {W : World} {v : Value} {r : Reach} {b0 : Nat} {d : DataW H} {ps : List MemPlace} {base : Nat} {spare : Nat → Bool} {held : Bool} (hval : Value.okWide Tryz.prog W r b0 24 v) (h : DataW.Trod enc Tryz.prog W base spare held 24 v d ps) : ∃ x : Cfg, v = .agg (cfgC x).toArray := by
 simp only [Value.okWide, Tryz.underlying24] at hval
 obtain ⟨cs, rfl, _, _⟩ := hval
 obtain ⟨m, hm⟩ := h
 obtain ⟨x, hx⟩ := came_cfg (cs := cs.toList) ⟨_, _, _, m, _, hm⟩
 exact ⟨x, by show Value.agg cs = Value.agg (cfgC x).toArray; rw [← hx]⟩
end Go.Proofs.YtmhiapebljfebaaGreatDoor

/- Numbers, their bytes and bits; what is read is written so alone: the plain side. No program in sight. -/
namespace Go.Proofs.YtmhiapebljfebaaGreatDoor
open Go.RowKit

def bitOf (ws : W4) (p : Nat) : Bool := (ws.getD (p / 64) 0).getLsbD (p % 64)
theorem bitOf_ext {a b : W4} (ha : a.length = 4) (hb : b.length = 4) (h : ∀ p, p < 256 → bitOf a p = bitOf b p) : a = b := by
 refine eq_of_getD (d := 0) (by omega) fun j hj => ?_
 apply BitVec.eq_of_getLsbD_eq
 intro i hi
 have := h (64 * j + i) (by omega)
 unfold bitOf at this
 rwa [show (64 * j + i) / 64 = j by omega, show (64 * j + i) % 64 = i by omega] at this
theorem bitOf_byteOf (ws : W4) (k i : Nat) (hi : i < 8) : (byteOf ws k).getLsbD i = bitOf ws (8 * k + i) := by
 unfold byteOf bitOf
 rw [BitVec.getLsbD_setWidth, BitVec.getLsbD_ushiftRight, show (8 * k + i) / 64 = k / 8 by omega, show (8 * k + i) % 64 = 8 * (k % 8) + i by omega]
 simp [hi]
theorem getD_set (ws : W4) (j k : Nat) (v : BitVec 64) (hj : j < ws.length) : (ws.set j v).getD k 0 = if j = k then v else ws.getD k 0 := by
 rw [List.getD_eq_getElem?_getD, List.getElem?_set, List.getD_eq_getElem?_getD, if_pos hj]
 split <;> rfl
theorem bitOf_put (ws : W4) (k p : Nat) (c : BitVec 8) (h4 : ws.length = 4) (hk : k < 32) : bitOf (putByte ws k c) p = (bitOf ws p || (decide (p / 8 = k) && c.getLsbD (p % 8))) := by
 unfold bitOf putByte
 rw [getD_set _ _ _ _ (by omega)]
 by_cases h : k / 8 = p / 64
 ·rw [if_pos h, BitVec.getLsbD_or, BitVec.getLsbD_shiftLeft, BitVec.getLsbD_setWidth, h]
  congr 1
  by_cases h2 : p / 8 = k
  ·have h5 : ¬ p % 64 < 8 * (k % 8) := by omega
   have h3 : p % 64 - 8 * (k % 8) = p % 8 := by omega
   simp only [h2, h5, h3, decide_true, decide_false, Bool.not_false, Bool.true_and, Bool.and_true]
   have h6 : p % 64 < 64 := by omega
   have h7 : p % 8 < 64 := by omega
   simp [h6, h7]
  ·rw [decide_eq_false h2, Bool.false_and]
   by_cases h3 : p % 64 < 8 * (k % 8)
   ·simp [h3]
   ·have : 8 ≤ p % 64 - 8 * (k % 8) := by omega
    simp [BitVec.getLsbD_of_ge c _ this]
 ·rw [if_neg h]
  have h2 : ¬ p / 8 = k := by omega
  simp [h2]
theorem bitOf_upto (b : B8) (hb : b.length ≤ 32) (p : Nat) : ∀ m, m ≤ b.length → bitOf (ofUpto b m) p = (decide (p / 8 < b.length ∧ b.length - 1 - p / 8 < m) && (b.getD (b.length - 1 - p / 8) 0).getLsbD (p % 8))
 | 0, _ => by
  have : ∀ q, bitOf [0, 0, 0, 0] q = false := fun q => by
   unfold bitOf
   match h : q / 64 with
   | 0 => simp
   | 1 => simp
   | 2 => simp
   | 3 => simp
   | n + 4 => simp
  rw [show ofUpto b 0 = [0, 0, 0, 0] from rfl, this]
  simp
 | m + 1, hm => by
  rw [ofUpto_succ, bitOf_put _ _ _ _ (ofUpto_length b m) (by omega), bitOf_upto b hb p m (by omega)]
  by_cases h : p / 8 = b.length - 1 - m
  ·have h1 : b.length - 1 - p / 8 = m := by omega
   rw [h1, decide_eq_true h, decide_eq_false (show ¬ (p / 8 < b.length ∧ m < m) by omega), decide_eq_true (show p / 8 < b.length ∧ m < m + 1 by omega)]
   simp
  ·rw [decide_eq_false h, Bool.false_and, Bool.or_false]
   congr 1
   exact decide_eq_decide.2 ⟨fun h1 => by omega, fun h1 => by omega⟩
theorem bitOf_ofBytes (b : B8) (hb : b.length ≤ 32) (p : Nat) : bitOf (ofBytes b) p = (decide (p / 8 < b.length) && (b.getD (b.length - 1 - p / 8) 0).getLsbD (p % 8)) := by
 rw [ofBytes, bitOf_upto b hb p _ (Nat.le_refl _)]
 congr 1
 exact decide_eq_decide.2 ⟨fun h1 => h1.1, fun h1 => ⟨h1, by omega⟩⟩
theorem byteOf_ofBytes (b : B8) (hb : b.length ≤ 32) (k : Nat) : byteOf (ofBytes b) k = if k < b.length then b.getD (b.length - 1 - k) 0 else 0 := by
 apply BitVec.eq_of_getLsbD_eq
 intro i hi
 rw [bitOf_byteOf _ _ _ hi, bitOf_ofBytes b hb, show (8 * k + i) / 8 = k by omega, show (8 * k + i) % 8 = i by omega]
 split
 ·rename_i h; simp [h]
 ·rename_i h; simp [h]
theorem ofBytes_natBytes (ws : W4) (h : ws.length = 4) : ofBytes (natBytes ws) = ws := by
 refine bitOf_ext (ofBytes_length _) h fun p hp => ?_
 rw [bitOf_ofBytes _ (by simp), natBytes_length, decide_eq_true (show p / 8 < 32 by omega), Bool.true_and]
 have h1 : (natBytes ws).getD (32 - 1 - p / 8) 0 = byteOf ws (p / 8) := by
  have : 32 - 1 - p / 8 < 32 := by omega
  rw [List.getD_eq_getElem?_getD]
  simp only [natBytes, List.getElem?_map, List.getElem?_range this, Option.map_some, Option.getD_some]
  congr 1
  omega
 rw [h1, bitOf_byteOf _ _ _ (by omega)]
 congr 1
 omega

def word0 (o : B8) : BitVec 64 := (ofBytes o).getD 0 0
theorem word0_bit (o : B8) (h : o.length ≤ 8) (i : Nat) (hi : i < 64) : (word0 o).getLsbD i = (decide (i / 8 < o.length) && (o.getD (o.length - 1 - i / 8) 0).getLsbD (i % 8)) := by
 have h1 := bitOf_ofBytes o (by omega) i
 unfold bitOf at h1
 rw [show i / 64 = 0 by omega, show i % 64 = i by omega] at h1
 exact h1
theorem digs_word0 (o : B8) (h : o.length ≤ 8) : digs (word0 o) o.length = o := by
 refine eq_of_getD (d := 0) (by simp) fun j hj => ?_
 rw [digs_length] at hj
 have h1 : (digs (word0 o) o.length).getD j 0 = (word0 o >>> (8 * (o.length - 1 - j))).setWidth 8 := by simp [digs, List.getD_eq_getElem?_getD, hj]
 rw [h1]
 apply BitVec.eq_of_getLsbD_eq
 intro i hi
 rw [BitVec.getLsbD_setWidth, BitVec.getLsbD_ushiftRight, word0_bit o h _ (by omega), show (8 * (o.length - 1 - j) + i) / 8 = o.length - 1 - j by omega, show (8 * (o.length - 1 - j) + i) % 8 = i by omega,
  show o.length - 1 - (o.length - 1 - j) = j by omega, decide_eq_true (show o.length - 1 - j < o.length by omega)]
 simp [hi]
theorem word0_top (o : B8) (h : o.length ≤ 8) : word0 o >>> (8 * o.length) = 0 := by
 apply BitVec.eq_of_getLsbD_eq
 intro i hi
 rw [BitVec.getLsbD_ushiftRight]
 by_cases h1 : 8 * o.length + i < 64
 ·rw [word0_bit o h _ h1, decide_eq_false (by omega)]
  simp
 ·rw [BitVec.getLsbD_of_ge _ _ (by omega)]
  simp
theorem nsz_le_of_top {n : BitVec 64} {k : Nat} (h : n >>> (8 * k) = 0) : nsz n ≤ k := by
 have h2 : n.toNat / 2 ^ (8 * k) = 0 := by
  have := congrArg BitVec.toNat h
  rw [BitVec.toNat_ushiftRight, Nat.shiftRight_eq_div_pow] at this
  exact this
 have h3 : n.toNat < 2 ^ (8 * k) := by
  rcases Nat.div_eq_zero_iff.1 h2 with h | h
  ·have : 0 < 2 ^ (8 * k) := Nat.two_pow_pos _; omega
  ·exact h
 have h4 := bitlen_le h3
 unfold nsz len64
 omega
theorem word0_digs (n : BitVec 64) : word0 (digs n (nsz n)) = n := by
 have hl : (digs n (nsz n)).length = nsz n := digs_length n _
 have h8 : (digs n (nsz n)).length ≤ 8 := by rw [hl]; exact nsz_le n
 have h1 := digs_word0 _ h8
 have h2 := nsz_le_of_top (word0_top _ h8)
 rw [hl] at h1 h2
 exact digs_inj h1 h2 (Nat.le_refl _)

namespace Rdr
theorem ofNat_toNat (n : BitVec 64) : BitVec.ofNat 64 n.toNat = n := by simp
end Rdr

theorem bytesB_len (b : B8) : (bytesB b).length ≤ b.length + 9 := by
 have := smallB_le (BitVec.ofNat 64 b.length)
 rw [bytesB, List.length_append]
 omega
theorem natsB_len (l : List W4) : (natsB l).length ≤ l.length * 32 + 9 := by
 have := smallB_le (BitVec.ofNat 64 l.length)
 rw [natsB, List.length_append, flatB_len]
 omega
structure Put where
 act : Int
 n : BitVec 64
 a : W4
 bv : Value
 b : B8
 lv : Value
 l : List W4
namespace Put
def cells (d : Put) : List Value := [it d.act, u64 d.n] ++ d.a.map u64 ++ [d.bv, d.lv]
def ok (d : Put) : Prop := d.a.length = 4 ∧ ∀ ws ∈ d.l, ws.length = 4
def few (d : Put) : Bool := decide (d.b.length ≤ 1000) && decide (d.l.length ≤ 40)
def out (d : Put) : B8 := if d.act = 1 then smallB d.n else if d.act = 2 then natBytes d.a else if d.act = 3 then bytesB d.b else if d.act = 4 then natsB d.l else []
end Put
def putAt (l : List Put) (k : Nat) : Put := l.getD k ⟨0, 0, [0, 0, 0, 0], .slice none 0 0, [], .slice none 0 0, []⟩
def putOut (l : List Put) : B8 := l.flatMap Put.out
def short (l : List Put) : Bool := decide (l.length ≤ 20) && l.all Put.few
theorem putAt_mem {l : List Put} {k : Nat} (h : k < l.length) : putAt l k ∈ l := by
 unfold putAt
 rw [List.getD_eq_getElem?_getD, List.getElem?_eq_getElem h]
 exact List.getElem_mem h
theorem Put.cells_len {d : Put} (h : d.ok) : d.cells.length = 8 := by simp [Put.cells, h.1]
section
variable {l : List Put} {k : Nat} (h : ∀ d ∈ l, d.ok) (hk : k < l.length)
include h hk
end
theorem short_few {l : List Put} (h : short l = true) : l.length ≤ 20 ∧ ∀ k, k < l.length → (putAt l k).b.length ≤ 1000 ∧ (putAt l k).l.length ≤ 40 := by
 unfold short at h
 rw [Bool.and_eq_true, decide_eq_true_eq, List.all_eq_true] at h
 refine ⟨h.1, fun k hk => ?_⟩
 have := h.2 _ (putAt_mem hk)
 unfold Put.few at this
 simpa using this
theorem Put.out_len {d : Put} (hb : d.b.length ≤ 1000) (hl : d.l.length ≤ 40) : d.out.length ≤ 1300 := by
 unfold Put.out
 split
 ·have := smallB_le d.n; omega
 ·split
  ·rw [natBytes_length]; omega
  ·split
   ·have := bytesB_len d.b; omega
   ·split
    ·have := natsB_len d.l; omega
    ·exact Nat.zero_le _
end Go.Proofs.YtmhiapebljfebaaGreatDoor

/- The pool's plain side: which piece is one of a kind, what is left without it; a map that may be nil. No program in sight. -/
namespace Go.Proofs.YtmhiapebljfebaaGreatDoor
open Go.RowKit
set_option linter.unusedVariables false
set_option linter.unusedSimpArgs false
theorem Spec.gsub {P : Program} {f : FuncId} {args : Array Value} {Γ Γ2 H : RL} {post : Value → RL → RL → Prop} (h : Spec P f args Γ H post) (hs : ∀ r ∈ Γ, r ∈ Γ2) : Spec P f args Γ2 H post := h.from (fun r hr k hk => ⟨r, hs r hr, hk⟩) (fun w hw r hr => hw r (hs r hr))
def shB (l : List B8) : Prop := l.length ≤ 12 ∧ ∀ b ∈ l, b.length ≤ 1100
instance (l : List B8) : Decidable (shB l) := by unfold shB; infer_instance
end Go.Proofs.YtmhiapebljfebaaGreatDoor

/- What is written is read: the plain side. No program in sight. -/
namespace Go.Proofs.YtmhiapebljfebaaGreatDoor
open Go.RowKit
namespace Rdr
theorem out_eq {xs ys : B8} {n : Nat} (h : xs.length = n) : (Rdr.mk (xs ++ ys) 0).out n = xs := by
 rw [out_ok (by show ¬ (xs ++ ys).length < n; rw [List.length_append]; omega) rfl]
 show (xs ++ ys).take n = xs
 rw [← h, List.take_left]
theorem aft_eq {xs ys : B8} {n : Nat} (h : xs.length = n) : (Rdr.mk (xs ++ ys) 0).aft n = ⟨ys, 0⟩ := by
 rw [aft_ok (by show ¬ (xs ++ ys).length < n; rw [List.length_append]; omega) rfl]
 show Rdr.mk ((xs ++ ys).drop n) 0 = _
 rw [← h, List.drop_left]
theorem aft_few {xs : B8} {n : Nat} (h : xs.length < n) : ((Rdr.mk xs 0).aft n).e = 3 := by
 have h1 : (Rdr.mk xs 0).chk n = ⟨[], 3⟩ := by rw [chk_lt (by exact h)]; rfl
 rw [aft_bad (by rw [h1]; decide), h1]
theorem out_few {xs : B8} {n : Nat} (h : xs.length < n) : (Rdr.mk xs 0).out n = [] := by
 have h1 : (Rdr.mk xs 0).chk n = ⟨[], 3⟩ := by rw [chk_lt (by exact h)]; rfl
 rw [out_bad (by rw [h1]; decide)]
theorem top_digit (n : BitVec 64) (h : 0 < nsz n) : (digs n (nsz n)).getD 0 0 ≠ 0 := by
 intro h0
 have h1 : (digs n (nsz n)).getD 0 0 = (n >>> (8 * (nsz n - 1 - 0))).setWidth 8 := by simp [digs, List.getD_eq_getElem?_getD, h]
 rw [h1, Nat.sub_zero] at h0
 have h8 := nsz_le n
 have hlt : n.toNat < 2 ^ (8 * nsz n) := Nat.lt_of_lt_of_le (bitlen_lt (n := n.toNat) (Nat.le_refl _)) (Nat.pow_le_pow_right (by decide) (by unfold nsz len64; omega))
 have h2 : n >>> (8 * (nsz n - 1)) = 0 := by
  apply BitVec.eq_of_toNat_eq
  have h3 := congrArg BitVec.toNat h0
  rw [BitVec.toNat_setWidth, BitVec.toNat_ushiftRight, Nat.shiftRight_eq_div_pow] at h3
  have h4 : n.toNat / 2 ^ (8 * (nsz n - 1)) < 2 ^ 8 := by
   rw [Nat.div_lt_iff_lt_mul (Nat.two_pow_pos _), ← Nat.pow_add]
   rw [show 8 + 8 * (nsz n - 1) = 8 * nsz n by omega]
   exact hlt
  rw [Nat.mod_eq_of_lt h4] at h3
  rw [BitVec.toNat_ushiftRight, Nat.shiftRight_eq_div_pow]
  exact h3
 have := nsz_le_of_top h2
 omega
theorem k8_toNat (n : BitVec 64) : (BitVec.ofNat 8 (nsz n)).toNat = nsz n := by
 have := nsz_le n
 rw [BitVec.toNat_ofNat]
 omega
section
variable {n lim : BitVec 64} {ys : B8}
theorem small_1 : (Rdr.mk (smallB n ++ ys) 0).out 1 = [BitVec.ofNat 8 (nsz n)] := out_eq (xs := [BitVec.ofNat 8 (nsz n)]) (ys := digs n (nsz n) ++ ys) rfl
theorem small_2 : (Rdr.mk (smallB n ++ ys) 0).aft 1 = ⟨digs n (nsz n) ++ ys, 0⟩ := aft_eq (xs := [BitVec.ofNat 8 (nsz n)]) (ys := digs n (nsz n) ++ ys) rfl
theorem small_3 : (Rdr.mk (smallB n ++ ys) 0).k8.toNat = nsz n := by
 rw [k8, small_1]
 exact k8_toNat n
theorem small_4 : (Rdr.mk (smallB n ++ ys) 0).smO = digs n (nsz n) := by
 rw [smO, small_3, if_pos (nsz_le n), small_2]
 exact out_eq (digs_length _ _)
theorem small_5 : (Rdr.mk (smallB n ++ ys) 0).smR = ⟨ys, 0⟩ := by
 rw [smR, small_3, if_pos (nsz_le n), small_2]
 exact aft_eq (digs_length _ _)
theorem small_6 (h : n.toNat ≤ lim.toNat) : (Rdr.mk (smallB n ++ ys) 0).smF lim = ⟨ys, 0⟩ := by
 have h8 := nsz_le n
 have hw : (ofBytes (digs n (nsz n))).getD 0 0 = n := word0_digs n
 rw [smF, small_5, small_3, small_4, hw, if_neg (not_not_intro rfl), if_neg (by omega), if_neg (fun h => top_digit n h.1 h.2), if_neg (by omega)]
theorem small_full (h : n.toNat ≤ lim.toNat) : (Rdr.mk (smallB n ++ ys) 0).sm lim = n ∧ (Rdr.mk (smallB n ++ ys) 0).smA lim = ⟨ys, 0⟩ := by
 constructor
 ·rw [sm, if_neg (by rw [small_1]; exact Nat.one_ne_zero), small_6 h, if_neg (not_not_intro rfl), small_4]
  exact word0_digs n
 ·rw [smA, if_neg (by rw [small_1]; exact Nat.one_ne_zero), small_6 h]
theorem small_cut {m : Nat} (h : m < (smallB n).length) : ((Rdr.mk ((smallB n).take m) 0).smA lim).e = 3 := by
 rw [smallB_length] at h
 cases m with
 | zero =>
  have h1 : (Rdr.mk ([] : B8) 0).out 1 = [] := out_few (by decide)
  rw [List.take_zero, smA, h1]
  exact aft_few (xs := []) (n := 1) (by decide)
 | succ m =>
  have hm : ((digs n (nsz n)).take m).length = m := by rw [List.length_take, digs_length]; omega
  have hc : (smallB n).take (m + 1) = [BitVec.ofNat 8 (nsz n)] ++ (digs n (nsz n)).take m := rfl
  have h1 : (Rdr.mk ((smallB n).take (m + 1)) 0).out 1 = [BitVec.ofNat 8 (nsz n)] := by rw [hc]; exact out_eq rfl
  have h2 : (Rdr.mk ((smallB n).take (m + 1)) 0).aft 1 = ⟨(digs n (nsz n)).take m, 0⟩ := by rw [hc]; exact aft_eq rfl
  have h3 : (Rdr.mk ((smallB n).take (m + 1)) 0).k8.toNat = nsz n := by rw [k8, h1]; exact k8_toNat n
  have h4 : (Rdr.mk ((smallB n).take (m + 1)) 0).smR.e = 3 := by
   rw [smR, h3, if_pos (nsz_le n), h2]
   exact aft_few (by omega)
  rw [smA, if_neg (by rw [h1]; exact Nat.one_ne_zero), smF, if_pos (by rw [h4]; decide)]
  exact h4
end
theorem cnt_full {c : Nat} {m : Int} {ys : B8} (hc : (c : Int) ≤ m) (hm : m ≤ 100000) : (Rdr.mk (smallB (BitVec.ofNat 64 c) ++ ys) 0).cnt m = BitVec.ofNat 64 c ∧ (Rdr.mk (smallB (BitVec.ofNat 64 c) ++ ys) 0).cntA m = ⟨ys, 0⟩ := by
 have h1 : (Rdr.mk (smallB (BitVec.ofNat 64 c) ++ ys) 0).cntR m = Rdr.mk (smallB (BitVec.ofNat 64 c) ++ ys) 0 := if_neg (by omega)
 have h2 : (BitVec.ofNat 64 c).toNat ≤ (BitVec.ofInt 64 m).toNat := by
  obtain ⟨k, rfl⟩ : ∃ k : Nat, m = (k : Int) := ⟨m.toNat, by omega⟩
  rw [BitVec.ofInt_natCast, BitVec.toNat_ofNat, BitVec.toNat_ofNat]
  omega
 rw [cnt, cntA, h1]
 exact small_full h2
theorem cnt_cut {c : Nat} {m : Int} {j : Nat} (hm : 0 ≤ m) (h : j < (smallB (BitVec.ofNat 64 c)).length) : ((Rdr.mk ((smallB (BitVec.ofNat 64 c)).take j) 0).cntA m).e = 3 := by
 have h1 : (Rdr.mk ((smallB (BitVec.ofNat 64 c)).take j) 0).cntR m = Rdr.mk ((smallB (BitVec.ofNat 64 c)).take j) 0 := if_neg (by omega)
 rw [cntA, h1]
 exact small_cut h
theorem toNat_small {c : Nat} (h : c ≤ 100000) : (BitVec.ofNat 64 c).toNat = c := by rw [BitVec.toNat_ofNat]; omega
theorem bytes_full {b ys : B8} (hb : b.length ≤ 1000) : (Rdr.mk (bytesB b ++ ys) 0).byO 1000 = b ∧ (Rdr.mk (bytesB b ++ ys) 0).byA 1000 = ⟨ys, 0⟩ := by
 obtain ⟨h1, h2⟩ := cnt_full (c := b.length) (m := 1000) (ys := b ++ ys) (by omega) (by decide)
 rw [bytesB, List.append_assoc, byO, byA, h1, h2, toNat_small (by omega)]
 exact ⟨out_eq rfl, aft_eq rfl⟩
theorem bytes_cut {b : B8} {j : Nat} (hb : b.length ≤ 1000) (h : j < (bytesB b).length) : ((Rdr.mk ((bytesB b).take j) 0).byA 1000).e = 3 := by
 by_cases hj : j < (smallB (BitVec.ofNat 64 b.length)).length
 ·have h1 : (bytesB b).take j = (smallB (BitVec.ofNat 64 b.length)).take j := List.take_append_of_le_length (by omega)
  have h2 := cnt_cut (m := 1000) (by decide) hj
  rw [h1, byA, aft_st (by rw [h2]; decide), h2]
 ·have h1 : (bytesB b).take j = smallB (BitVec.ofNat 64 b.length) ++ b.take (j - (smallB (BitVec.ofNat 64 b.length)).length) := by
   rw [bytesB, List.take_append, List.take_of_length_le (by omega)]
  obtain ⟨h2, h3⟩ := cnt_full (c := b.length) (m := 1000) (ys := b.take (j - (smallB (BitVec.ofNat 64 b.length)).length)) (by omega) (by decide)
  rw [bytesB, List.length_append] at h
  rw [h1, byA, h2, h3, toNat_small (by omega)]
  exact aft_few (by rw [List.length_take]; omega)
theorem go_full : ∀ (l : List W4) (acc : List W4) (ys : B8), (∀ ws ∈ l, ws.length = 4) → go l.length acc ⟨flatB l ++ ys, 0⟩ = (acc ++ l, ⟨ys, 0⟩)
 | [], acc, ys, _ => by rw [List.append_nil]; rfl
 | ws :: l, acc, ys, h => by
  have h1 : flatB (ws :: l) ++ ys = natBytes ws ++ (flatB l ++ ys) := by simp [flatB]
  have h2 : (Rdr.mk (natBytes ws ++ (flatB l ++ ys)) 0).aft 32 = ⟨flatB l ++ ys, 0⟩ := aft_eq (natBytes_length ws)
  have h3 : (Rdr.mk (natBytes ws ++ (flatB l ++ ys)) 0).out 32 = natBytes ws := out_eq (natBytes_length ws)
  rw [h1, List.length_cons, go_ok (by rw [h2]), h2, h3, ofBytes_natBytes ws (h ws (.head _)), go_full l _ ys fun x hx => h x (.tail _ hx), List.append_assoc]
  rfl
theorem go_cut : ∀ (n : Nat) (acc : List W4) (b : B8), b.length < 32 * n → (go n acc ⟨b, 0⟩).2.e = 3
 | 0, _, _, h => absurd h (by omega)
 | n + 1, acc, b, h => by
  by_cases hb : b.length < 32
  ·have h1 := aft_few hb
   rw [go_bad (by rw [h1]; decide)]
   exact h1
  ·have h1 : (Rdr.mk b 0).aft 32 = ⟨b.drop 32, 0⟩ := aft_ok hb rfl
   rw [go_ok (by rw [h1]), h1]
   exact go_cut n _ _ (by rw [List.length_drop]; omega)
theorem nats_full {l : List W4} {ys : B8} (h4 : ∀ ws ∈ l, ws.length = 4) (hl : l.length ≤ 40) : (Rdr.mk (natsB l ++ ys) 0).naO 40 = l ∧ (Rdr.mk (natsB l ++ ys) 0).naA 40 = ⟨ys, 0⟩ := by
 obtain ⟨h1, h2⟩ := cnt_full (c := l.length) (m := 40) (ys := flatB l ++ ys) (by omega) (by decide)
 rw [natsB, List.append_assoc, naO, naA, h1, h2, toNat_small (by omega), go_full l [] ys h4]
 exact ⟨rfl, rfl⟩
theorem nats_cut {l : List W4} {j : Nat} (hl : l.length ≤ 40) (h : j < (natsB l).length) : ((Rdr.mk ((natsB l).take j) 0).naA 40).e = 3 := by
 by_cases hj : j < (smallB (BitVec.ofNat 64 l.length)).length
 ·have h1 : (natsB l).take j = (smallB (BitVec.ofNat 64 l.length)).take j := List.take_append_of_le_length (by omega)
  have h2 := cnt_cut (m := 40) (by decide) hj
  have h3 : ((Rdr.mk ((smallB (BitVec.ofNat 64 l.length)).take j) 0).cntA 40).e ≠ 0 := by rw [h2]; decide
  have h4 : ∀ n acc, (go n acc ((Rdr.mk ((smallB (BitVec.ofNat 64 l.length)).take j) 0).cntA 40)).2.e = 3 := by
   intro n acc
   cases n with
   | zero => exact h2
   | succ n =>
    rw [go_bad (by rw [aft_st h3]; exact h3), aft_st h3]
    exact h2
  rw [h1, naA]
  exact h4 _ _
 ·have h1 : (natsB l).take j = smallB (BitVec.ofNat 64 l.length) ++ (flatB l).take (j - (smallB (BitVec.ofNat 64 l.length)).length) := by
   rw [natsB, List.take_append, List.take_of_length_le (by omega)]
  obtain ⟨h2, h3⟩ := cnt_full (c := l.length) (m := 40) (ys := (flatB l).take (j - (smallB (BitVec.ofNat 64 l.length)).length)) (by omega) (by decide)
  have h4 := flatB_len l
  rw [natsB, List.length_append] at h
  rw [h1, naA, h2, h3, toNat_small (by omega)]
  exact go_cut _ _ _ (by rw [List.length_take]; omega)
end Rdr

def stepP (r : Rdr) (d : Put) : Rdr := if d.act = 1 then r.smA 18446744073709551615#64 else if d.act = 2 then r.aft 32 else if d.act = 3 then r.byA 1000 else if d.act = 4 then r.naA 40 else r
def fineB (r : Rdr) (d : Put) : Bool :=
 if d.act = 1 then decide (r.sm 18446744073709551615#64 = d.n) else if d.act = 2 then decide (ofBytes (r.out 32) = d.a) else if d.act = 3 then decide (r.byO 1000 = d.b) else if d.act = 4 then decide (r.naO 40 = d.l) else true
theorem le_max (n : BitVec 64) : n.toNat ≤ (18446744073709551615#64).toNat := by have := n.isLt; show n.toNat ≤ 18446744073709551615; omega
theorem step_full {d : Put} {ys : B8} (hok : d.ok) (hb : d.b.length ≤ 1000) (hl : d.l.length ≤ 40) : stepP ⟨d.out ++ ys, 0⟩ d = ⟨ys, 0⟩ ∧ fineB ⟨d.out ++ ys, 0⟩ d = true := by
 unfold stepP fineB Put.out
 by_cases c1 : d.act = 1
 ·simp only [if_pos c1]
  obtain ⟨h1, h2⟩ := Rdr.small_full (n := d.n) (ys := ys) (le_max d.n)
  exact ⟨h2, decide_eq_true h1⟩
 ·by_cases c2 : d.act = 2
  ·simp only [if_neg c1, if_pos c2]
   exact ⟨Rdr.aft_eq (natBytes_length _), decide_eq_true (by rw [Rdr.out_eq (natBytes_length _), ofBytes_natBytes _ hok.1])⟩
  ·by_cases c3 : d.act = 3
   ·simp only [if_neg c1, if_neg c2, if_pos c3]
    obtain ⟨h1, h2⟩ := Rdr.bytes_full (ys := ys) hb
    exact ⟨h2, decide_eq_true h1⟩
   ·by_cases c4 : d.act = 4
    ·simp only [if_neg c1, if_neg c2, if_neg c3, if_pos c4]
     obtain ⟨h1, h2⟩ := Rdr.nats_full (ys := ys) hok.2 hl
     exact ⟨h2, decide_eq_true h1⟩
    ·simp only [if_neg c1, if_neg c2, if_neg c3, if_neg c4]
     exact ⟨rfl, trivial⟩
theorem step_cut {d : Put} {j : Nat} (hb : d.b.length ≤ 1000) (hl : d.l.length ≤ 40) (h : j < d.out.length) : (stepP ⟨d.out.take j, 0⟩ d).e = 3 := by
 unfold Put.out at h
 unfold stepP Put.out
 by_cases c1 : d.act = 1
 ·simp only [if_pos c1] at h ⊢; exact Rdr.small_cut h
 ·by_cases c2 : d.act = 2
  ·simp only [if_neg c1, if_pos c2] at h ⊢
   rw [natBytes_length] at h
   exact Rdr.aft_few (by rw [List.length_take]; omega)
  ·by_cases c3 : d.act = 3
   ·simp only [if_neg c1, if_neg c2, if_pos c3] at h ⊢; exact Rdr.bytes_cut hb h
   ·by_cases c4 : d.act = 4
    ·simp only [if_neg c1, if_neg c2, if_neg c3, if_pos c4] at h ⊢; exact Rdr.nats_cut hl h
    ·simp only [if_neg c1, if_neg c2, if_neg c3, if_neg c4] at h; exact absurd h (by simp)
theorem stepP_st {r : Rdr} (h : r.e ≠ 0) (d : Put) : stepP r d = r := by
 unfold stepP
 rw [Rdr.smA_st h, Rdr.aft_st h, Rdr.byA_st h, Rdr.naA_st h]
 simp
def Inv (l : List Put) (n k : Nat) (r : Rdr) : Prop :=
 (n = 0 ∧ r = ⟨putOut (l.drop k), 0⟩) ∨ (n = 1 ∧ (r.e = 3 ∨ ∃ m, m < (putOut (l.drop k)).length ∧ r = ⟨(putOut (l.drop k)).take m, 0⟩))
theorem drop_at {l : List Put} {k : Nat} (h : k < l.length) : putOut (l.drop k) = (putAt l k).out ++ putOut (l.drop (k + 1)) := by
 rw [List.drop_eq_getElem_cons h, putAt, List.getD_eq_getElem?_getD, List.getElem?_eq_getElem h]
 rfl
theorem Inv.step {l : List Put} {n k : Nat} {r : Rdr} (hok : ∀ d ∈ l, d.ok) (hsh : short l = true) (hk : k < l.length) (h : Inv l n k r) : Inv l n (k + 1) (stepP r (putAt l k)) ∧ (n = 0 → fineB r (putAt l k) = true) := by
 obtain ⟨hb, hl⟩ := (short_few hsh).2 k hk
 have ho := hok _ (putAt_mem hk)
 have hd := drop_at hk
 rcases h with ⟨hn, rfl⟩ | ⟨hn, h⟩
 ·obtain ⟨h1, h2⟩ := step_full (ys := putOut (l.drop (k + 1))) ho hb hl
  rw [hd, h1]
  exact ⟨.inl ⟨hn, rfl⟩, fun _ => h2⟩
 ·refine ⟨.inr ⟨hn, ?_⟩, fun h0 => by omega⟩
  rcases h with h | ⟨m, hm, rfl⟩
  ·exact .inl (by rw [stepP_st (by rw [h]; decide), h])
  ·rw [hd] at hm ⊢
   by_cases hj : m < (putAt l k).out.length
   ·rw [List.take_append_of_le_length (by omega)]
    exact .inl (step_cut hb hl hj)
   ·rw [List.length_append] at hm
    refine .inr ⟨m - (putAt l k).out.length, by omega, ?_⟩
    rw [List.take_append, List.take_of_length_le (by omega)]
    exact (step_full (ys := (putOut (l.drop (k + 1))).take (m - (putAt l k).out.length)) ho hb hl).1
theorem Inv.fin {l : List Put} {n : Nat} {r : Rdr} (h : Inv l n l.length r) : (n = 0 ∧ r.fin = 0) ∨ (n = 1 ∧ r.fin = 3) := by
 rcases h with ⟨hn, rfl⟩ | ⟨hn, h⟩
 ·rw [List.drop_length]
  exact .inl ⟨hn, rfl⟩
 ·refine .inr ⟨hn, ?_⟩
  rcases h with h | ⟨m, hm, _⟩
  ·rw [Rdr.fin, if_neg (fun h2 => by rw [h] at h2; exact absurd h2.1 (by decide)), h]
  ·rw [List.drop_length] at hm
   exact absurd hm (by simp [putOut])
end Go.Proofs.YtmhiapebljfebaaGreatDoor

/- Blocks, packed and unpacked: the plain side. No program in sight. -/
namespace Go.Proofs.YtmhiapebljfebaaGreatDoor
open Go.RowKit
set_option linter.unusedVariables false
set_option linter.unusedSimpArgs false
namespace Rdr
theorem sm_le (r : Rdr) (lim : BitVec 64) : (r.sm lim).toNat ≤ lim.toNat := by
 unfold sm
 split
 ·exact Nat.zero_le _
 ·split
  ·exact Nat.zero_le _
  ·rename_i h
   have h := Decidable.not_not.1 h
   unfold smF at h
   split at h
   ·rename_i h1; exact absurd h h1
   ·split at h
    ·exact absurd h (wrong_ne (by decide))
    ·split at h
     ·exact absurd h (wrong_ne (by decide))
     ·split at h
      ·exact absurd h (wrong_ne (by decide))
      ·omega
end Rdr
end Go.Proofs.YtmhiapebljfebaaGreatDoor

/- The document's reader beside the codec's. No program in sight. -/
namespace Go.Proofs.YtmhiapebljfebaaGreatDoor
open Go.RowKit
set_option linter.unusedVariables false
structure RdL (B : B8) (at' : Nat) (r : Rdr) : Prop where
 le : at' ≤ B.length
 b : r.e = 0 → B.drop at' = r.b
theorem RdL.begin (B : B8) : RdL B 0 ⟨B, 0⟩ := ⟨Nat.zero_le _, fun _ => rfl⟩
theorem RdL.len {B : B8} {p : Nat} {r : Rdr} (h : RdL B p r) (h0 : r.e = 0) : r.b.length = B.length - p := by rw [← h.b h0, List.length_drop]
theorem RdL.bad {B : B8} {p : Nat} {r : Rdr} (h : p ≤ B.length) (h0 : r.e ≠ 0) : RdL B p r := ⟨h, fun h1 => absurd h1 h0⟩
theorem RdL.wrong {B : B8} {p : Nat} {r : Rdr} (h : RdL B p r) {e : Int} (he : e ≠ 0) : RdL B p (r.wrong e) := .bad h.le (Rdr.wrong_ne he)
theorem wrong_e (r : Rdr) (e : Int) : (r.wrong e).e = if r.e = 0 then e else r.e := by unfold Rdr.wrong; split <;> rfl
theorem RdL.take {B : B8} {p n : Nat} {r : Rdr} (h : RdL B p r) (h0 : r.e = 0) (hn : p + n ≤ B.length) : (r.aft n) = ⟨B.drop (p + n), 0⟩ ∧ r.out n = (B.drop p).take n ∧ RdL B (p + n) (r.aft n) := by
 have hl := h.len h0
 have hb := h.b h0
 have e1 := Rdr.aft_ok (r := r) (n := n) (by omega) h0
 rw [← hb, List.drop_drop] at e1
 refine ⟨e1, by rw [Rdr.out_ok (by omega) h0, hb], ?_⟩
 rw [e1]
 exact ⟨hn, fun _ => rfl⟩
theorem RdL.short {B : B8} {p n : Nat} {r : Rdr} (h : RdL B p r) (h0 : r.e = 0) (hn : B.length < p + n) : (r.aft n).e = 3 ∧ r.out n = [] := by
 have hl := h.len h0
 have hlt : r.b.length < n := by have := h.le; omega
 have e1 : r.chk n = r.wrong 3 := Rdr.chk_lt hlt
 have e2 : (r.chk n).e ≠ 0 := by rw [e1]; exact Rdr.wrong_ne (by decide)
 rw [Rdr.aft_bad e2, Rdr.out_bad e2, e1, wrong_e, if_pos h0]
 exact ⟨rfl, rfl⟩
theorem aft_stuck {r : Rdr} (h : r.e ≠ 0) (n : Nat) : r.aft n = r ∧ r.out n = [] := ⟨Rdr.aft_st h n, by
 refine Rdr.out_bad ?_
 unfold Rdr.chk
 split
 ·rw [wrong_e, if_neg h]; exact h
 ·exact h⟩
theorem RdL.e1 {B : B8} {p n : Nat} {r : Rdr} (h : RdL B p r) (hn : B.length < p + n) : (if r.e = 0 then (3 : Int) else r.e) = (r.aft n).e := by
 by_cases h0 : r.e = 0
 ·rw [if_pos h0, (h.short h0 hn).1]
 ·rw [if_neg h0, (aft_stuck h0 n).1]
theorem RdL.e2 {B : B8} {p n : Nat} {r : Rdr} (h : RdL B p r) (hn : p + n ≤ B.length) : r.e = (r.aft n).e := by
 by_cases h0 : r.e = 0
 ·rw [h0, (h.take h0 hn).1]
 ·rw [(aft_stuck h0 n).1]
theorem word0_snoc (o : B8) (c : BitVec 8) (h : o.length < 8) : word0 (o ++ [c]) = word0 o * 256#64 + c.setWidth 64 := by
 have e : word0 o * 256#64 = word0 o <<< 8 := by
  rw [BitVec.shiftLeft_eq_mul_twoPow]
  rfl
 have hd : (word0 o <<< 8) &&& c.setWidth 64 = 0 := by
  apply BitVec.eq_of_getLsbD_eq
  intro i hi
  rw [BitVec.getLsbD_and, BitVec.getLsbD_shiftLeft, BitVec.getLsbD_setWidth]
  by_cases h8 : i < 8
  ·simp [h8]
  ·rw [BitVec.getLsbD_of_ge c i (by omega)]; simp
 rw [e, BitVec.add_eq_or_of_and_eq_zero _ _ hd]
 apply BitVec.eq_of_getLsbD_eq
 intro i hi
 rw [word0_bit (o ++ [c]) (by simp; omega) i hi, BitVec.getLsbD_or, BitVec.getLsbD_shiftLeft, BitVec.getLsbD_setWidth]
 have hl : (o ++ [c]).length = o.length + 1 := by simp
 rw [hl]
 by_cases h8 : i < 8
 ·have e1 : i / 8 = 0 := by omega
  have e2 : i % 8 = i := by omega
  rw [e1, e2]
  simp [h8, hi, List.getD_eq_getElem?_getD]
 ·rw [BitVec.getLsbD_of_ge c i (by omega), word0_bit o (by omega) (i - 8) (by omega)]
  have e1 : (i - 8) / 8 = i / 8 - 1 := by omega
  have e2 : (i - 8) % 8 = i % 8 := by omega
  rw [e1, e2]
  by_cases h9 : i / 8 < o.length + 1
  ·have e3 : o.length + 1 - 1 - i / 8 = o.length - 1 - (i / 8 - 1) := by omega
   have e4 : (o ++ [c]).getD (o.length - 1 - (i / 8 - 1)) 0 = o.getD (o.length - 1 - (i / 8 - 1)) 0 := by
    rw [List.getD_eq_getElem?_getD, List.getD_eq_getElem?_getD, List.getElem?_append_left (by omega)]
   rw [e3, e4]
   simp [h8, hi, h9]
   omega
  ·simp [h8, hi, h9]
   omega
theorem word0_take {o : B8} {k : Nat} (h : k < o.length) (h8 : o.length ≤ 8) : word0 (o.take (k + 1)) = word0 (o.take k) * 256#64 + (o.getD k 0).setWidth 64 := by
 rw [take_snocB h]
 exact word0_snoc _ _ (by rw [List.length_take]; omega)
theorem sm_1 {r : Rdr} {lim : BitVec 64} (h : (r.aft 1).e ≠ 0) : r.sm lim = 0 ∧ (r.smA lim).e = (r.aft 1).e ∧ r.smA lim = r.aft 1 := by
 have h0 : (r.out 1).length = 0 := by
  have : (r.chk 1).e ≠ 0 := fun h1 => h (by unfold Rdr.aft; rw [if_pos h1])
  rw [Rdr.out_bad this]; rfl
 unfold Rdr.sm Rdr.smA
 rw [if_pos h0, if_pos h0]
 exact ⟨rfl, rfl, rfl⟩
theorem out1 {r : Rdr} (h : (r.aft 1).e = 0) : r.out 1 = [r.k8] ∧ ¬ (r.out 1).length = 0 := by
 have hl := Rdr.out_len h
 refine ⟨?_, by rw [hl]; decide⟩
 unfold Rdr.k8
 match r.out 1, hl with
 | [x], _ => rfl
theorem sm_2 {r : Rdr} {lim : BitVec 64} (h : (r.aft 1).e = 0) (h8 : r.k8.toNat > 8) : r.sm lim = 0 ∧ r.smA lim = (r.aft 1).wrong 31 := by
 have h0 := (out1 h).2
 have hR : r.smR = r.aft 1 := if_neg (by omega)
 have hF : r.smF lim = (r.aft 1).wrong 31 := by unfold Rdr.smF; rw [hR, if_neg (not_not_intro h), if_pos h8]
 unfold Rdr.sm Rdr.smA
 rw [if_neg h0, if_neg h0, hF, if_pos (Rdr.wrong_ne (by decide))]
 exact ⟨rfl, rfl⟩
theorem sm_r {r : Rdr} (h8 : ¬ r.k8.toNat > 8) : r.smR = (r.aft 1).aft r.k8.toNat ∧ r.smO = (r.aft 1).out r.k8.toNat := ⟨if_pos (by omega), if_pos (by omega)⟩
theorem sm_3 {r : Rdr} {lim : BitVec 64} (h : (r.aft 1).e = 0) (h8 : ¬ r.k8.toNat > 8) (h3 : ((r.aft 1).aft r.k8.toNat).e ≠ 0) : r.sm lim = 0 ∧ r.smA lim = (r.aft 1).aft r.k8.toNat := by
 have h0 := (out1 h).2
 have hF : r.smF lim = (r.aft 1).aft r.k8.toNat := by unfold Rdr.smF; rw [(sm_r h8).1, if_pos h3]
 unfold Rdr.sm Rdr.smA
 rw [if_neg h0, if_neg h0, hF, if_pos h3]
 exact ⟨rfl, rfl⟩
theorem sm_4 {r : Rdr} {lim : BitVec 64} (h : (r.aft 1).e = 0) (h8 : ¬ r.k8.toNat > 8) (h3 : ((r.aft 1).aft r.k8.toNat).e = 0) (hz : 0 < r.smO.length ∧ r.smO.getD 0 0 = 0) : r.sm lim = 0 ∧ r.smA lim = ((r.aft 1).aft r.k8.toNat).wrong 31 := by
 have h0 := (out1 h).2
 have hl : r.smO.length = r.k8.toNat := by rw [(sm_r h8).2]; exact Rdr.out_len h3
 have hF : r.smF lim = ((r.aft 1).aft r.k8.toNat).wrong 31 := by unfold Rdr.smF; rw [(sm_r h8).1, if_neg (not_not_intro h3), if_neg h8, if_pos ⟨hl ▸ hz.1, hz.2⟩]
 unfold Rdr.sm Rdr.smA
 rw [if_neg h0, if_neg h0, hF, if_pos (Rdr.wrong_ne (by decide))]
 exact ⟨rfl, rfl⟩
theorem sm_5 {r : Rdr} {lim : BitVec 64} (h : (r.aft 1).e = 0) (h8 : ¬ r.k8.toNat > 8) (h3 : ((r.aft 1).aft r.k8.toNat).e = 0) (hz : ¬ (0 < r.smO.length ∧ r.smO.getD 0 0 = 0)) (hl2 : (word0 r.smO).toNat > lim.toNat) : r.sm lim = 0 ∧ r.smA lim = ((r.aft 1).aft r.k8.toNat).wrong 2 := by
 have h0 := (out1 h).2
 have hl : r.smO.length = r.k8.toNat := by rw [(sm_r h8).2]; exact Rdr.out_len h3
 have hF : r.smF lim = ((r.aft 1).aft r.k8.toNat).wrong 2 := by unfold Rdr.smF; rw [(sm_r h8).1, if_neg (not_not_intro h3), if_neg h8, if_neg (fun h9 => hz ⟨hl.symm ▸ h9.1, h9.2⟩)]; exact if_pos hl2
 unfold Rdr.sm Rdr.smA
 rw [if_neg h0, if_neg h0, hF, if_pos (Rdr.wrong_ne (by decide))]
 exact ⟨rfl, rfl⟩
theorem sm_6 {r : Rdr} {lim : BitVec 64} (h : (r.aft 1).e = 0) (h8 : ¬ r.k8.toNat > 8) (h3 : ((r.aft 1).aft r.k8.toNat).e = 0) (hz : ¬ (0 < r.smO.length ∧ r.smO.getD 0 0 = 0)) (hl2 : ¬ (word0 r.smO).toNat > lim.toNat) : r.sm lim = word0 r.smO ∧ r.smA lim = (r.aft 1).aft r.k8.toNat := by
 have h0 := (out1 h).2
 have hl : r.smO.length = r.k8.toNat := by rw [(sm_r h8).2]; exact Rdr.out_len h3
 have hF : r.smF lim = (r.aft 1).aft r.k8.toNat := by unfold Rdr.smF; rw [(sm_r h8).1, if_neg (not_not_intro h3), if_neg h8, if_neg (fun h9 => hz ⟨hl.symm ▸ h9.1, h9.2⟩)]; exact if_neg hl2
 unfold Rdr.sm Rdr.smA
 rw [if_neg h0, if_neg h0, hF, if_neg (not_not_intro h3)]
 exact ⟨rfl, rfl⟩
theorem rd_mid8 {v : Value} {B : B8} {po n : Nat} (h : po + n ≤ B.length) : Res.rd v (po + n - po) 1 (((B.map u8).drop (po * 1)).take ((po + n - po) * 1)) = Res.rd v ((B.drop po).take n).length 1 (((B.drop po).take n).map u8) := by
 rw [Nat.add_sub_cancel_left, Nat.mul_one, Nat.mul_one, List.map_take, List.map_drop, List.length_take, List.length_drop, Nat.min_eq_left (by omega)]
theorem fin_of {B : B8} {p : Nat} {r : Rdr} (h : RdL B p r) : r.fin = if r.e = 0 ∧ p < B.length then 30 else r.e := by
 unfold Rdr.fin
 by_cases h0 : r.e = 0
 ·have := h.len h0
  by_cases h1 : p < B.length
  ·rw [if_pos ⟨h0, by omega⟩, if_pos ⟨h0, h1⟩]
  ·rw [if_neg (fun h2 => h1 (by omega)), if_neg (fun h2 => h1 h2.2)]
 ·rw [if_neg (fun h2 => h0 h2.1), if_neg (fun h2 => h0 h2.1)]
end Go.Proofs.YtmhiapebljfebaaGreatDoor

/- What is decided, as_ bytes, and back. No program in sight. -/
namespace Go.Proofs.YtmhiapebljfebaaGreatDoor
open Go.RowKit
set_option linter.unusedVariables false
structure TB where
 kind : Int
 frm : Int
 dealer : Int
 slot : Int
 v : Value
 com : List W4
 val : W4
def tbC (t : TB) : List Value := [it t.kind, it t.frm, it t.dealer, it t.slot, t.v] ++ t.val.map u64
@[simp] theorem tbC_len (t : TB) : (tbC t).length = 5 + t.val.length := by unfold tbC; rw [List.length_append, List.length_map]; rfl
structure TBok (t : TB) : Prop where
 val : t.val.length = 4
 com : ∀ ws ∈ t.com, ws.length = 4
 len : t.com.length ≤ 1000000
def TB.key (t : TB) : Int × Int × Int × Int × List W4 × W4 := (t.kind, t.frm, t.dealer, t.slot, t.com, t.val)
theorem tb_val {t : TB} (h : t.val.length = 4) : ((tbC t).drop 5).take 4 = t.val.map u64 := by
 show (t.val.map u64).take 4 = _
 exact List.take_of_length_le (by rw [List.length_map, h]; exact Nat.le_refl _)
def tF (t : TB) (i : Nat) : Int := if i = 0 then t.kind else if i = 1 then t.frm else if i = 2 then t.dealer else t.slot
def tS (t : TB) : Nat → B8
 | 0 => []
 | k + 1 => tS t k ++ smallB (BitVec.ofInt 64 (tF t k))
theorem tS_len (t : TB) : ∀ k, (tS t k).length ≤ 9 * k
 | 0 => Nat.zero_le _
 | k + 1 => by
  have h1 := tS_len t k
  have h2 := smallB_le (BitVec.ofInt 64 (tF t k))
  rw [tS, List.length_append]; omega
def txE (t : TB) : Int := if t.kind < 1 ∨ t.kind > 7 ∨ t.frm < 0 ∨ t.frm > 255 ∨ t.dealer < 0 ∨ t.dealer > 255 ∨ t.slot < 0 ∨ t.slot > 255 ∨ t.com.length > 20 then 1 else 0
def txB (t : TB) : B8 := tS t 4 ++ natsB t.com ++ natBytes t.val
def txO (t : TB) : B8 := if txE t = 0 then txB t else []
theorem txE_0 {t : TB} (h : txE t = 0) : (∀ i, i < 4 → 0 ≤ tF t i ∧ tF t i ≤ 255) ∧ 1 ≤ t.kind ∧ t.kind ≤ 7 ∧ t.com.length ≤ 20 := by
 unfold txE at h
 split at h
 ·cases h
 ·refine ⟨fun i hi => ?_, by omega, by omega, by omega⟩
  rcases (show i = 0 ∨ i = 1 ∨ i = 2 ∨ i = 3 by omega) with rfl | rfl | rfl | rfl
  ·show 0 ≤ t.kind ∧ t.kind ≤ 255; omega
  ·show 0 ≤ t.frm ∧ t.frm ≤ 255; omega
  ·show 0 ≤ t.dealer ∧ t.dealer ≤ 255; omega
  ·show 0 ≤ t.slot ∧ t.slot ≤ 255; omega
theorem txE_1 {t : TB} {i : Nat} (hi : i < 4) (h : tF t i < 0 ∨ tF t i > 255) : txE t = 1 := by
 unfold txE
 rw [if_pos]
 rcases (show i = 0 ∨ i = 1 ∨ i = 2 ∨ i = 3 by omega) with rfl | rfl | rfl | rfl
 ·have h : t.kind < 0 ∨ t.kind > 255 := h; omega
 ·have h : t.frm < 0 ∨ t.frm > 255 := h; omega
 ·have h : t.dealer < 0 ∨ t.dealer > 255 := h; omega
 ·have h : t.slot < 0 ∨ t.slot > 255 := h; omega
theorem txE_k {t : TB} (hf : ∀ i, i < 4 → ¬ (tF t i < 0 ∨ tF t i > 255)) (h : ¬ (t.kind < 1 ∨ t.kind > 7 ∨ t.com.length > 20)) : txE t = 0 := by
 have a1 : ¬ (t.frm < 0 ∨ t.frm > 255) := hf 1 (by decide)
 have a2 : ¬ (t.dealer < 0 ∨ t.dealer > 255) := hf 2 (by decide)
 have a3 : ¬ (t.slot < 0 ∨ t.slot > 255) := hf 3 (by decide)
 unfold txE
 rw [if_neg (by omega)]
def rdK (b : B8) : Nat → Rdr
 | 0 => ⟨b, 0⟩
 | k + 1 => (rdK b k).smA 255#64
def fdK (b : B8) (k : Nat) : Int := (((rdK b k).sm 255#64).toNat : Int)
theorem fd_bd (b : B8) (k : Nat) : 0 ≤ fdK b k ∧ fdK b k ≤ 255 := by
 have h := Rdr.sm_le (rdK b k) 255#64
 have e : (255#64).toNat = 255 := rfl
 rw [e] at h
 unfold fdK; omega
theorem rd_b (b : B8) : ∀ k, (rdK b k).b.length ≤ b.length
 | 0 => Nat.le_refl _
 | k + 1 => Nat.le_trans (Rdr.smA_b _ _) (rd_b b k)
def comK (b : B8) : List W4 := (rdK b 4).naO 20
def r5K (b : B8) : Rdr := (rdK b 4).naA 20
def valK (b : B8) : W4 := ofBytes ((r5K b).out 32)
def endK (b : B8) : Int := ((r5K b).aft 32).fin
def decE (b : B8) : Int := if endK b = 0 ∧ (fdK b 0 < 1 ∨ fdK b 0 > 7) then 31 else endK b
def zeroK : Int × Int × Int × Int × List W4 × W4 := (0, 0, 0, 0, [], [0, 0, 0, 0])
def decK (b : B8) : Int × Int × Int × Int × List W4 × W4 := if decE b = 0 then (fdK b 0, fdK b 1, fdK b 2, fdK b 3, comK b, valK b) else zeroK
def fldT (b : B8) (k : Nat) : List Value := tab 4 fun i => if i < k then it (fdK b i) else it 0
@[simp] theorem fld_len (b : B8) (k : Nat) : (fldT b k).length = 4 := by unfold fldT; exact tab_len
theorem fld_set (b : B8) (k : Nat) (rest : List Value) (hk : k < 4) : (fldT b k ++ rest).set k (it (fdK b k)) = fldT b (k + 1) ++ rest := by
 rw [List.set_append_left _ _ (by rw [fld_len]; exact hk)]
 congr 1
 unfold fldT
 rw [tab_set]
 refine tab_congr fun i hi => ?_
 by_cases h : i = k
 ·subst h; rw [if_pos rfl, if_pos (by omega)]
 ·rw [if_neg h]
  by_cases h2 : i < k
  ·rw [if_pos h2, if_pos (by omega)]
  ·rw [if_neg h2, if_neg (by omega)]
theorem fld_4 (b : B8) (v : Value) (com : List W4) (ws : W4) : fldT b 4 ++ (v :: ws.map u64) = tbC ⟨fdK b 0, fdK b 1, fdK b 2, fdK b 3, v, com, ws⟩ := rfl
theorem rdK_full (t : TB) (hf : ∀ i, i < 4 → 0 ≤ tF t i ∧ tF t i ≤ 255) (ys : B8) : ∀ k, k ≤ 4 → ∃ zs, tS t 4 ++ ys = tS t k ++ zs ∧ rdK (tS t 4 ++ ys) k = ⟨zs, 0⟩ ∧ (k = 4 → zs = ys) ∧ ∀ i, i < k → fdK (tS t 4 ++ ys) i = tF t i := by
 intro k
 induction k with
 | zero => intro _; exact ⟨_, rfl, rfl, (fun h => by cases h), fun i hi => absurd hi (Nat.not_lt_zero _)⟩
 | succ k ih =>
  intro hk
  obtain ⟨zs, h1, h2, -, h4⟩ := ih (by omega)
  have hb := hf k (by omega)
  have hz : ∃ zs', zs = smallB (BitVec.ofInt 64 (tF t k)) ++ zs' ∧ (k + 1 = 4 → zs' = ys) := by
   have e : tS t 4 = tS t k ++ (tS t 4).drop (tS t k).length := by
    rcases (show k = 0 ∨ k = 1 ∨ k = 2 ∨ k = 3 by omega) with rfl | rfl | rfl | rfl <;> simp [tS]
   rcases (show k = 0 ∨ k = 1 ∨ k = 2 ∨ k = 3 by omega) with rfl | rfl | rfl | rfl
   ·exact ⟨smallB (BitVec.ofInt 64 (tF t 1)) ++ smallB (BitVec.ofInt 64 (tF t 2)) ++ smallB (BitVec.ofInt 64 (tF t 3)) ++ ys, by simp [tS] at h1; simp [← h1], fun h => by omega⟩
   ·exact ⟨smallB (BitVec.ofInt 64 (tF t 2)) ++ smallB (BitVec.ofInt 64 (tF t 3)) ++ ys, by simp [tS] at h1; simp [← h1], fun h => by omega⟩
   ·exact ⟨smallB (BitVec.ofInt 64 (tF t 3)) ++ ys, by simp [tS] at h1; simp [← h1], fun h => by omega⟩
   ·exact ⟨ys, by simp [tS] at h1; simp [← h1], fun _ => rfl⟩
  obtain ⟨zs', rfl, he⟩ := hz
  obtain ⟨f, hfn⟩ : ∃ f : Nat, tF t k = (f : Int) := ⟨(tF t k).toNat, by omega⟩
  have hn : (BitVec.ofInt 64 (tF t k)).toNat = f := by rw [hfn, BitVec.ofInt_natCast, BitVec.toNat_ofNat]; omega
  obtain ⟨g1, g2⟩ := Rdr.small_full (n := BitVec.ofInt 64 (tF t k)) (lim := 255#64) (ys := zs') (by rw [hn]; show f ≤ 255; omega)
  refine ⟨zs', by rw [h1, tS, List.append_assoc], ?_, he, fun i hi => ?_⟩
  ·rw [rdK, h2]; exact g2
  ·rcases Nat.lt_succ_iff_lt_or_eq.1 hi with h | rfl
   ·exact h4 i h
   ·unfold fdK
    rw [h2, g1, hn, hfn]
theorem nats_full20 {l : List W4} {ys : B8} (h4 : ∀ ws ∈ l, ws.length = 4) (hl : l.length ≤ 20) : (Rdr.mk (natsB l ++ ys) 0).naO 20 = l ∧ (Rdr.mk (natsB l ++ ys) 0).naA 20 = ⟨ys, 0⟩ := by
 obtain ⟨h1, h2⟩ := Rdr.cnt_full (c := l.length) (m := 20) (ys := flatB l ++ ys) (by omega) (by decide)
 rw [natsB, List.append_assoc, Rdr.naO, Rdr.naA, h1, h2, Rdr.toNat_small (by omega), Rdr.go_full l [] ys h4]
 exact ⟨rfl, rfl⟩
theorem back_tx {t : TB} (hok : TBok t) (h : txE t = 0) : decE (txB t) = 0 ∧ decK (txB t) = t.key := by
 ·obtain ⟨hf, hk1, hk7, hl⟩ := txE_0 h
  obtain ⟨zs, -, h2, h3, h4⟩ := rdK_full t hf (natsB t.com ++ natBytes t.val) 4 (Nat.le_refl _)
  obtain rfl := h3 rfl
  have hB : txB t = tS t 4 ++ (natsB t.com ++ natBytes t.val) := List.append_assoc _ _ _
  rw [← hB] at h2 h4
  obtain ⟨n1, n2⟩ := nats_full20 (ys := natBytes t.val) hok.com hl
  have e5 : r5K (txB t) = ⟨natBytes t.val, 0⟩ := by unfold r5K; rw [h2]; exact n2
  have ec : comK (txB t) = t.com := by unfold comK; rw [h2]; exact n1
  have hl32 : (natBytes t.val).length = 32 := natBytes_length _
  have ea : (Rdr.mk (natBytes t.val) 0).aft 32 = ⟨[], 0⟩ := by
   rw [Rdr.aft_ok (by rw [hl32]; decide) rfl]
   simp [hl32]
  have eo : (Rdr.mk (natBytes t.val) 0).out 32 = natBytes t.val := by
   have h0 : ((Rdr.mk (natBytes t.val) 0).aft 32).e = 0 := by rw [ea]
   have h5 := Rdr.out_len h0
   unfold Rdr.out
   unfold Rdr.out at h5
   split at h5
   ·rename_i hx
    first | (rw [if_pos hx]; exact List.take_of_length_le (by rw [hl32]; exact Nat.le_refl _)) | (rw [if_pos hx]; simp at h5)
   ·rename_i hx
    first | (rw [if_neg hx]; exact List.take_of_length_le (by rw [hl32]; exact Nat.le_refl _)) | (rw [if_neg hx]; simp at h5)
  have ev : valK (txB t) = t.val := by unfold valK; rw [e5, eo]; exact ofBytes_natBytes _ hok.val
  have ee : endK (txB t) = 0 := by unfold endK; rw [e5, ea]; rfl
  have f0 : fdK (txB t) 0 = t.kind := h4 0 (by decide)
  have f1 : fdK (txB t) 1 = t.frm := h4 1 (by decide)
  have f2 : fdK (txB t) 2 = t.dealer := h4 2 (by decide)
  have f3 : fdK (txB t) 3 = t.slot := h4 3 (by decide)
  have e0 : decE (txB t) = 0 := by unfold decE; rw [ee, f0, if_neg (by omega)]
  exact ⟨e0, by unfold decK; rw [if_pos e0, f0, f1, f2, f3, ec, ev]; rfl⟩
theorem endK_def (b : B8) : ((r5K b).aft 32).fin = endK b := rfl
theorem fdK_def (b : B8) (k : Nat) : (((rdK b k).sm 255#64).toNat : Int) = fdK b k := rfl
theorem valK_def (b : B8) : ofBytes ((r5K b).out 32) = valK b := rfl
theorem comK_def (b : B8) : (rdK b 4).naO 20 = comK b := rfl
theorem decE_1 {b : B8} (h : endK b = 0 ∧ (fdK b 0 < 1 ∨ fdK b 0 > 7)) : decE b = 31 := if_pos h
theorem decE_0 {b : B8} (h : ¬ (endK b = 0 ∧ (fdK b 0 < 1 ∨ fdK b 0 > 7))) : decE b = endK b := if_neg h
theorem decK_0 {b : B8} (h : decE b = 0) (v : Value) : (⟨fdK b 0, fdK b 1, fdK b 2, fdK b 3, v, comK b, valK b⟩ : TB).key = decK b := by
 unfold decK
 rw [if_pos h]
 unfold TB.key
 dsimp only
theorem decK_1 {b : B8} (h : decE b ≠ 0) : (⟨0, 0, 0, 0, .slice none 0 0, [], [0, 0, 0, 0]⟩ : TB).key = decK b := by
 unfold decK
 rw [if_neg h]
 rfl
attribute [irreducible] endK fdK valK comK decE decK
end Go.Proofs.YtmhiapebljfebaaGreatDoor

/- The document's numbers of sixty-four bytes: the plain side. No program in sight. -/
namespace Go.Proofs.YtmhiapebljfebaaGreatDoor
open Go.RowKit
def dgN (n i : Nat) : Nat := n / 256 ^ i % 256
theorem dg_lt (n i : Nat) : dgN n i < 256 := Nat.mod_lt _ (by decide)
def dgs (n : Nat) : List Value := tab 64 fun i => it ((dgN n i : Nat) : Int)
@[simp] theorem dgs_len (n : Nat) : (dgs n).length = 64 := tab_len
theorem dgs_get (n : Nat) {j : Nat} (h : j < 64) : (dgs n)[j]? = some (it ((dgN n j : Nat) : Int)) := tab_get h
def dT (f : Nat → Nat) (k : Nat) : List Value := tab 64 fun j => if j < k then it ((f j : Nat) : Int) else it 0
@[simp] theorem dT_len (f : Nat → Nat) (k : Nat) : (dT f k).length = 64 := tab_len
theorem p8 (i : Nat) : 0 < 256 ^ i := Nat.pow_pos (by decide)
def cr8 (a b i : Nat) : Nat := (a % 256 ^ i + b % 256 ^ i) / 256 ^ i
theorem pw8 (i : Nat) : 256 ^ i = 2 ^ (64 * (i / 8) + 8 * (i % 8)) := by
 rw [show (256 : Nat) = 2 ^ 8 from rfl, ← Nat.pow_mul]
 congr 1
 omega
theorem mod_div_mod (c : Nat) {s : Nat} (hs : s < 8) : c % 2 ^ 64 / 2 ^ (8 * s) % 256 = c / 2 ^ (8 * s) % 256 := by
 have e1 := Nat.mod_mul_right_div_self c (2 ^ (8 * s)) (2 ^ (64 - 8 * s))
 rw [← Nat.pow_add, show 8 * s + (64 - 8 * s) = 64 by omega] at e1
 rw [e1]
 refine Nat.mod_mod_of_dvd _ ?_
 exact Nat.pow_dvd_pow 2 (show 8 ≤ 64 - 8 * s by omega)
theorem byte_at (a : Nat) {i : Nat} (h : i < 32) : ((wat a (i / 8) >>> (8 * (i % 8))) &&& 255#64).toNat = dgN a i := by
 have h1 : ∀ n : Nat, n &&& 255 = n % 256 := fun n => Nat.and_two_pow_sub_one_eq_mod n 8
 rw [BitVec.toNat_and, BitVec.toNat_ushiftRight, wat_nat a _ (by omega), Nat.shiftRight_eq_div_pow, show (255#64).toNat = 255 from rfl, h1, mod_div_mod _ (by omega), Nat.div_div_eq_div_mul, ← Nat.pow_add, ← pw8]
 rfl
theorem low_step (n : Nat) {i : Nat} (h : i < 32) : (wd (n % 256 ^ i)).set (i / 8) (wat (n % 256 ^ i) (i / 8) + (BitVec.ofNat 64 (dgN n i) <<< (8 * (i % 8)))) = wd (n % 256 ^ (i + 1)) := by
 have hj4 : i / 8 < 4 := by omega
 have e0 : n % 256 ^ (i + 1) = n % 256 ^ i + 256 ^ i * dgN n i := by rw [Nat.pow_succ, Nat.mod_mul]; rfl
 have hlt := Nat.mod_lt n (p8 i)
 have hd := dg_lt n i
 rw [e0]
 generalize n % 256 ^ i = m at *
 generalize dgN n i = d at *
 rw [pw8] at hlt ⊢
 have hs : i % 8 < 8 := Nat.mod_lt _ (by decide)
 have hw : wat m (i / 8) + (BitVec.ofNat 64 d <<< (8 * (i % 8))) = wat (m + 2 ^ (64 * (i / 8) + 8 * (i % 8)) * d) (i / 8) := by
  apply BitVec.eq_of_toNat_eq
  rw [BitVec.toNat_add, wat_nat _ _ hj4, wat_nat _ _ hj4, BitVec.toNat_shiftLeft, BitVec.toNat_ofNat, Nat.shiftLeft_eq, Nat.pow_add, Nat.mul_assoc, Nat.add_mul_div_left _ _ (Nat.pow_pos (by decide)), Nat.mod_eq_of_lt (show d < 2 ^ 64 by omega), Nat.mul_comm d]
  generalize 2 ^ (8 * (i % 8)) * d = z
  generalize m / 2 ^ (64 * (i / 8)) = y
  omega
 rw [hw]
 have hwat : ∀ j, j < 4 → j ≠ i / 8 → wat m j = wat (m + 2 ^ (64 * (i / 8) + 8 * (i % 8)) * d) j := by
  intro j hj hne
  apply BitVec.eq_of_toNat_eq
  rw [wat_nat _ _ hj, wat_nat _ _ hj]
  by_cases hlo : j < i / 8
  ·obtain ⟨r, hr⟩ : ∃ r, 64 * (i / 8) + 8 * (i % 8) = 64 * j + (64 + r) := ⟨64 * (i / 8) + 8 * (i % 8) - 64 * j - 64, by omega⟩
   rw [hr, Nat.pow_add, Nat.mul_assoc, Nat.add_mul_div_left _ _ (Nat.pow_pos (by decide)), Nat.pow_add, Nat.mul_assoc, Nat.add_mul_mod_self_left]
  ·have hk : 64 * (i / 8) + 8 * (i % 8) + 8 ≤ 64 * j := by omega
   have h8 : 2 ^ (64 * (i / 8) + 8 * (i % 8) + 8) ≤ 2 ^ (64 * j) := Nat.pow_le_pow_right (by decide) hk
   rw [Nat.pow_add] at h8
   have hb : m + 2 ^ (64 * (i / 8) + 8 * (i % 8)) * d < 2 ^ (64 * (i / 8) + 8 * (i % 8)) * 2 ^ 8 := by
    have : 2 ^ (64 * (i / 8) + 8 * (i % 8)) * (d + 1) ≤ 2 ^ (64 * (i / 8) + 8 * (i % 8)) * 2 ^ 8 := Nat.mul_le_mul_left _ (by omega)
    rw [Nat.mul_add, Nat.mul_one] at this
    omega
   rw [Nat.div_eq_of_lt (show m < 2 ^ (64 * j) by omega), Nat.div_eq_of_lt (show m + 2 ^ (64 * (i / 8) + 8 * (i % 8)) * d < 2 ^ (64 * j) by omega)]
 generalize m + 2 ^ (64 * (i / 8) + 8 * (i % 8)) * d = A at *
 have e : ∀ n : Nat, wd n = [wat n 0, wat n 1, wat n 2, wat n 3] := fun _ => rfl
 rcases four hj4 with h | h | h | h <;> rw [h] at hwat ⊢ <;> rw [e m, e A] <;> simp only [List.set_cons_zero, List.set_cons_succ]
 ·rw [hwat 1 (by decide) (by decide), hwat 2 (by decide) (by decide), hwat 3 (by decide) (by decide)]
 ·rw [hwat 0 (by decide) (by decide), hwat 2 (by decide) (by decide), hwat 3 (by decide) (by decide)]
 ·rw [hwat 0 (by decide) (by decide), hwat 1 (by decide) (by decide), hwat 3 (by decide) (by decide)]
 ·rw [hwat 0 (by decide) (by decide), hwat 1 (by decide) (by decide), hwat 2 (by decide) (by decide)]
theorem low_setv (n : Nat) {i : Nat} (h : i < 32) : ((wd (n % 256 ^ i)).map u64).set (i / 8) (u64 (wat (n % 256 ^ i) (i / 8) + (BitVec.ofNat 64 (dgN n i) <<< (8 * (i % 8))))) = (wd (n % 256 ^ (i + 1))).map u64 := by
 rw [← List.map_set, low_step n h]
theorem low_0 (n : Nat) : n % 256 ^ 0 = 0 := by simp [Nat.mod_one]
theorem low_32 (n : Nat) : wd (n % 256 ^ 32) = wd n := wd_mod n
attribute [irreducible] dgN cr8
end Go.Proofs.YtmhiapebljfebaaGreatDoor

/- The document's numbers of sixty-four bytes: differences, division, products: the plain side. No program in sight. -/
namespace Go.Proofs.YtmhiapebljfebaaGreatDoor
open Go.RowKit
theorem dgN_eq (n i : Nat) : dgN n i = n / 256 ^ i % 256 := by rw [dgN]
def big : Nat := 256 ^ 64
def br8 (a b i : Nat) : Nat := if a % 256 ^ i < b % 256 ^ i then 1 else 0
def oftK (W m k : Nat) : Nat := W / 2 ^ k / m
def rowL (X a b i j : Nat) : Nat := X % 256 ^ (i + j) + a * 256 ^ i * (b % 256 ^ j)
def rowT (X a b i j : Nat) : List Value := tab 64 fun t => if t < i + j then it ((dgN (rowL X a b i j) t : Nat) : Int) else it ((dgN X t : Nat) : Int)
@[simp] theorem rowT_len (X a b i j : Nat) : (rowT X a b i j).length = 64 := tab_len
def prodK (a b i : Nat) : Nat := (a % 256 ^ i) * b
def w8at (n j : Nat) : W64 := BitVec.ofNat 64 (n / 2 ^ (64 * j))
def we8 (n : Nat) : List W64 := (List.range 8).map (w8at n)
@[simp] theorem we8_len (n : Nat) : (we8 n).length = 8 := by simp [we8]
def rowC (X a b i j : Nat) : Nat := rowL X a b i j / 256 ^ (i + j)
attribute [irreducible] br8 oftK rowL prodK big w8at rowC
end Go.Proofs.YtmhiapebljfebaaGreatDoor

/- Bytes that are a number, by digits; what the document's reader reads. No program in sight. -/
namespace Go.Proofs.YtmhiapebljfebaaGreatDoor
open Go.RowKit
set_option linter.unusedVariables false
def valB (b : B8) : Nat := ((ofBytes b).getD 0 0).toNat + ((ofBytes b).getD 1 0).toNat * 18446744073709551616 + ((ofBytes b).getD 2 0).toNat * 340282366920938463463374607431768211456 + ((ofBytes b).getD 3 0).toNat * 6277101735386680763835789423207666416102355444464034512896
theorem wd_fourL : ∀ {ws : W4}, ws.length = 4 → ws = wd ((ws.getD 0 0).toNat + (ws.getD 1 0).toNat * 18446744073709551616 + (ws.getD 2 0).toNat * 340282366920938463463374607431768211456 + (ws.getD 3 0).toNat * 6277101735386680763835789423207666416102355444464034512896) ∧ (ws.getD 0 0).toNat + (ws.getD 1 0).toNat * 18446744073709551616 + (ws.getD 2 0).toNat * 340282366920938463463374607431768211456 + (ws.getD 3 0).toNat * 6277101735386680763835789423207666416102355444464034512896 < 115792089237316195423570985008687907853269984665640564039457584007913129639936
 | [a, b, c, d], _ => by
  have ha := a.isLt; have hb := b.isLt; have hc := c.isLt; have hd := d.isLt
  show [a, b, c, d] = wd (a.toNat + b.toNat * 18446744073709551616 + c.toNat * 340282366920938463463374607431768211456 + d.toNat * 6277101735386680763835789423207666416102355444464034512896) ∧ a.toNat + b.toNat * 18446744073709551616 + c.toNat * 340282366920938463463374607431768211456 + d.toNat * 6277101735386680763835789423207666416102355444464034512896 < 115792089237316195423570985008687907853269984665640564039457584007913129639936
  refine ⟨?_, by omega⟩
  have e : ∀ (x : W64) (n : Nat), n % 18446744073709551616 = x.toNat → x = BitVec.ofNat 64 n := fun x n h => BitVec.eq_of_toNat_eq (by rw [BitVec.toNat_ofNat]; exact h.symm)
  unfold wd
  rw [← e a _ (by omega), ← e b _ (by omega), ← e c _ (by omega), ← e d _ (by omega)]
theorem wd_valB (b : B8) : wd (valB b) = ofBytes b := (wd_fourL (ofBytes_length b)).1.symm
theorem valB_lt (b : B8) : valB b < 115792089237316195423570985008687907853269984665640564039457584007913129639936 := (wd_fourL (ofBytes_length b)).2
theorem wat_get (n : Nat) {j : Nat} (h : j < 4) : (wd n).getD j 0 = wat n j := by
 have h1 := wd_get n h
 rw [List.getElem?_map] at h1
 obtain ⟨x, hx, he⟩ := Option.map_eq_some_iff.1 h1
 rw [List.getD_eq_getElem?_getD, hx]
 simp only [Option.getD_some]
 have : (x.toNat : Int) = ((wat n j).toNat : Int) := by simpa [u64] using he
 exact BitVec.eq_of_toNat_eq (by omega)
theorem dg_valB (b : B8) (hb : b.length ≤ 32) {k : Nat} (hk : k < 32) : dgN (valB b) k = (if k < b.length then b.getD (b.length - 1 - k) 0 else 0).toNat := by
 rw [← byteOf_ofBytes b hb k, ← wd_valB, byteOf, wat_get _ (by omega), ← byte_at _ hk]
 have h1 : ∀ n : Nat, n &&& 255 = n % 256 := fun n => Nat.and_two_pow_sub_one_eq_mod n 8
 rw [BitVec.toNat_and, BitVec.toNat_setWidth, show (255#64).toNat = 255 from rfl, h1]
def ofT2 (b : B8) (x : Nat) : List Value := tab 64 fun j => if b.length - x ≤ j ∧ j < b.length then it ((dgN (valB b) j : Nat) : Int) else it 0
@[simp] theorem ofT2_len (b : B8) (x : Nat) : (ofT2 b x).length = 64 := by unfold ofT2; exact tab_len
theorem ofT2_0 (b : B8) : List.replicate 64 (it 0) = ofT2 b 0 := by
 rw [show List.replicate 64 (it 0) = tab 64 (fun _ => it 0) from rfl]
 exact tab_congr fun j _ => (if_neg (by omega)).symm
theorem ofT2_set {b : B8} (hb : b.length ≤ 32) {x : Nat} (hx : x < b.length) : (ofT2 b x).set (b.length - 1 - x) (it (((b.getD x 0).toNat : Nat) : Int)) = ofT2 b (x + 1) := by
 unfold ofT2
 rw [tab_set]
 refine tab_congr fun i hi => ?_
 by_cases h : i = b.length - 1 - x
 ·subst h
  rw [if_pos rfl, if_pos (by omega), dg_valB b hb (by omega), if_pos (by omega), show b.length - 1 - (b.length - 1 - x) = x by omega]
 ·rw [if_neg h]
  by_cases h2 : b.length - x ≤ i ∧ i < b.length
  ·rw [if_pos h2, if_pos (by omega)]
  ·rw [if_neg h2, if_neg (by omega)]
theorem ofT2_all {b : B8} (hb : b.length ≤ 32) : ofT2 b b.length = dgs (valB b) := by
 unfold ofT2 dgs
 refine tab_congr fun i hi => ?_
 by_cases h : i < b.length
 ·rw [if_pos (by omega)]
 ·rw [if_neg (by omega)]
  by_cases h32 : i < 32
  ·rw [dg_valB b hb h32, if_neg h]; rfl
  ·have : dgN (valB b) i = 0 := by
    rw [dgN_eq]
    have h1 : valB b / 256 ^ i = 0 := by
     apply Nat.div_eq_of_lt
     refine Nat.lt_of_lt_of_le (valB_lt b) ?_
     exact Nat.le_trans (show 115792089237316195423570985008687907853269984665640564039457584007913129639936 ≤ 256 ^ 32 by decide) (Nat.pow_le_pow_right (by decide) (by omega))
    rw [h1]
   rw [this]; rfl
theorem tF_get (t : TB) {k : Nat} (h : k < 4) : [it t.kind, it t.frm, it t.dealer, it t.slot][k]? = some (it (tF t k)) := by
 rcases (show k = 0 ∨ k = 1 ∨ k = 2 ∨ k = 3 by omega) with rfl | rfl | rfl | rfl <;> rfl
theorem ptr_get (b : Nat) {k : Nat} (h : k < 4) : [ptr b 0, ptr b 1, ptr b 2, ptr b 3][k]? = some (ptr b k) := by
 rcases (show k = 0 ∨ k = 1 ∨ k = 2 ∨ k = 3 by omega) with rfl | rfl | rfl | rfl <;> rfl
theorem txB_len (t : TB) (h : t.com.length ≤ 1000000) : (tS t 4).length ≤ 36 ∧ (tS t 4 ++ natsB t.com).length ≤ 40000000 ∧ (txB t).length ≤ 40000100 := by
 have h1 := tS_len t 4
 have h2 := natsB_len t.com
 have h3 : (natBytes t.val).length = 32 := natBytes_length _
 have h4 : (tS t 4 ++ natsB t.com).length = (tS t 4).length + (natsB t.com).length := List.length_append
 have h5 : (txB t).length = (tS t 4 ++ natsB t.com).length + 32 := by unfold txB; rw [List.length_append, h3]
 omega
theorem txB_le (t : TB) : (txB t).length ≤ t.com.length * 32 + 77 := by
 have h1 := tS_len t 4
 have h2 := natsB_len t.com
 have h3 : (natBytes t.val).length = 32 := natBytes_length _
 have h4 : (tS t 4 ++ natsB t.com).length = (tS t 4).length + (natsB t.com).length := List.length_append
 have h5 : (txB t).length = (tS t 4 ++ natsB t.com).length + 32 := by unfold txB; rw [List.length_append, h3]
 omega
theorem natsV_one (ws : W4) : ∀ a ∈ ws.map u64, a.oneCell' = true := one_map fun _ => rfl
theorem tb_one {t : TB} (h : t.v.oneCell' = true) : ∀ a ∈ tbC t, a.oneCell' = true := fun a ha => by
 unfold tbC at ha
 rcases List.mem_append.1 ha with h1 | h1
 ·simp only [List.mem_cons, List.not_mem_nil, or_false] at h1
  rcases h1 with rfl | rfl | rfl | rfl | rfl
  ·rfl
  ·rfl
  ·rfl
  ·rfl
  ·exact h
 ·exact natsV_one _ _ h1
theorem go_nil {r : Rdr} {n k : Nat} {acc : List W4} {r' : Rdr} (hk : k < n) (h0 : r'.e = 0) (h : Rdr.go (n - k) acc r' = Rdr.go n [] r) :
  ((r'.aft 32).e = 0 → Rdr.go (n - (k + 1)) (acc ++ [ofBytes (r'.out 32)]) (r'.aft 32) = Rdr.go n [] r) ∧ ((r'.aft 32).e ≠ 0 → Rdr.go n [] r = ([], r'.aft 32)) := by
 rw [show n - k = (n - (k + 1)) + 1 by omega] at h
 exact ⟨fun he => by rw [← h, Rdr.go_ok he], fun he => by rw [← h, Rdr.go_bad he]⟩
theorem txB_ref (t : TB) : txB t = smallB (BitVec.ofInt 64 (tF t 0)) ++ smallB (BitVec.ofInt 64 (tF t 1)) ++ smallB (BitVec.ofInt 64 (tF t 2)) ++ smallB (BitVec.ofInt 64 (tF t 3)) ++ natsB t.com ++ natBytes t.val := by
 simp [txB, tS]
theorem win_ref {c : Cfg} : (if ∀ n ∈ winL c, 1 ≤ n ∧ n ≤ 50 then (0 : Int) else 1) = if 1 ≤ c.Deal ∧ c.Deal ≤ 50 ∧ 1 ≤ c.Ack ∧ c.Ack ≤ 50 ∧ 1 ≤ c.Open ∧ c.Open ≤ 50 ∧ 1 ≤ c.Reveal ∧ c.Reveal ≤ 50 then 0 else 1 := by
 have e : (∀ n ∈ winL c, 1 ≤ n ∧ n ≤ 50) ↔ (1 ≤ c.Deal ∧ c.Deal ≤ 50 ∧ 1 ≤ c.Ack ∧ c.Ack ≤ 50 ∧ 1 ≤ c.Open ∧ c.Open ≤ 50 ∧ 1 ≤ c.Reveal ∧ c.Reveal ≤ 50) := by
  unfold winL
  simp only [List.mem_cons, List.not_mem_nil, or_false, forall_eq_or_imp, forall_eq]
  omega
 by_cases h : ∀ n ∈ winL c, 1 ≤ n ∧ n ≤ 50
 ·rw [if_pos h, if_pos (e.1 h)]
 ·rw [if_neg h, if_neg (fun hh => h (e.2 hh))]
theorem fld_v (b : B8) (v u : Value) (rest : List Value) : (fldT b 4 ++ (u :: rest)).set 4 v = fldT b 4 ++ (v :: rest) := rfl
theorem fld_s (b : B8) (v : Value) (com : List W4) {ws : W4} (h : ws.length = 4) : splice (fldT b 4 ++ (v :: [(0 : W64), 0, 0, 0].map u64)) 5 (ws.map u64) = tbC ⟨fdK b 0, fdK b 1, fdK b 2, fdK b 3, v, com, ws⟩ := by
 rw [← fld_4]
 unfold splice
 rw [List.length_map, h]
 show [it (fdK b 0), it (fdK b 1), it (fdK b 2), it (fdK b 3), v] ++ ws.map u64 ++ [] = _
 rw [List.append_nil]
 rfl
@[simp] theorem valK_len (b : B8) : (valK b).length = 4 := by rw [← valK_def]; exact ofBytes_length _
theorem sm_i64 (b : B8) (k : Nat) : ((rdK b k).sm 255#64).toNat < 9223372036854775808 := by
 have h := Rdr.sm_le (rdK b k) 255#64
 have e : (255#64).toNat = 255 := rfl
 omega
theorem go_4' : ∀ (n : Nat) (acc : List W4) (r : Rdr), (∀ ws ∈ acc, ws.length = 4) → acc.length + n ≤ 20 → (Rdr.go n acc r).1.length ≤ 20 ∧ ∀ ws ∈ (Rdr.go n acc r).1, ws.length = 4
 | 0, acc, r, h, hl => ⟨by rw [Rdr.go]; omega, by rw [Rdr.go]; exact h⟩
 | n + 1, acc, r, h, hl => by
  rw [Rdr.go]
  split
  ·exact ⟨Nat.zero_le _, fun _ h => absurd h List.not_mem_nil⟩
  ·exact go_4' n _ _ (ofBytes4 _ _ h) (by rw [List.length_append]; simp; omega)
theorem com_ok (b : B8) : (comK b).length ≤ 20 ∧ ∀ ws ∈ comK b, ws.length = 4 := by
 rw [← comK_def]
 exact go_4' _ [] _ (fun _ h => absurd h List.not_mem_nil) (by have h : ((rdK b 4).cnt 20).toNat ≤ 20 := Rdr.sm_le _ 20#64; simp; omega)
theorem cnt_bad {r : Rdr} (he : (r.cntA 20).e ≠ 0) : Rdr.go (r.cnt 20).toNat [] (r.cntA 20) = ([], r.cntA 20) := by
 have h : r.cnt 20 = 0 := by
  have he' : (r.smA 20#64).e ≠ 0 := he
  show r.sm 20#64 = 0
  unfold Rdr.sm
  unfold Rdr.smA at he'
  split
  ·rfl
  ·rename_i h0
   rw [if_neg h0] at he'
   rw [if_pos he']
 rw [h]; rfl
theorem tbkey_eq {a b : TB} : a.key = b.key ↔ a.kind = b.kind ∧ a.frm = b.frm ∧ a.dealer = b.dealer ∧ a.slot = b.slot ∧ a.com = b.com ∧ a.val = b.val := by
 unfold TB.key
 simp only [Prod.mk.injEq]
instance (a b : TB) : Decidable (a.key = b.key) := decidable_of_iff _ tbkey_eq.symm
theorem vq_ex (a b : W4) : ∃ vq : Int, (a = b ↔ vq = 0) := by
 by_cases h : a = b
 ·exact ⟨0, by simp [h]⟩
 ·exact ⟨1, by simp [h]⟩
theorem com_eq {a b : List W4} (hl : a.length = b.length) (h : ∀ j, j < a.length → a.getD j [] = b.getD j []) : a = b := by
 apply List.ext_getElem hl
 intro i h1 h2
 have := h i h1
 rwa [List.getD_eq_getElem?_getD, List.getD_eq_getElem?_getD, List.getElem?_eq_getElem h1, List.getElem?_eq_getElem h2] at this
end Go.Proofs.YtmhiapebljfebaaGreatDoor

/- One that is decided, as_ it comes in, by words. -/
namespace Go.Proofs.YtmhiapebljfebaaGreatDoor
open Go.ChangeShapes Go.WideShapes Go.ChangeAt Go.RowKit
set_option maxRecDepth 100000
variable {H : Type} {enc : TypeId × Value → H} {w : World}
theorem nats_w (l : List Nat) : natCells (l.map wd) = bks natC l := by
 induction l with
 | nil => rfl
 | cons a l ih => rw [List.map_cons, bks_cons, ← ih]; rfl
def SX.tb (s : SX) : TB := ⟨s.kind, s.frm, s.dealer, s.slot, .slice s.A s.n s.c, s.com.map wd, wd s.val⟩
structure TXin where
 t : TB
 val : t.val.length = 4
 com : ∀ ws ∈ t.com, ws.length = 4
 one : t.v.oneCell' = true
theorem came_tb {cs : List Value} (h : Came enc Tryz.prog w 42 cs) : ∃ x : TXin, cs = tbC x.t ∧ Rds w [Res.rd x.t.v x.t.com.length 4 (natCells x.t.com)] := by
 obtain ⟨s, hs, -, hc, hv, hr⟩ := came_tx h
 refine ⟨⟨s.tb, rfl, fun ws hw => ?_, rfl⟩, hs, Rds.one ?_⟩
 ·obtain ⟨a, _, rfl⟩ := List.mem_map.1 hw; rfl
 ·show IsRd w s.tx.v (s.com.map wd).length 4 (natCells (s.com.map wd))
  rw [List.length_map, nats_w]
  exact hr
theorem open_tx {W : World} {v : Value} {r : Reach} {b0 : Nat} {d : DataW H} {ps : List MemPlace} {base : Nat} {spare : Nat → Bool} {held : Bool} (hval : Value.okWide Tryz.prog W r b0 42 v) (h : DataW.Trod enc Tryz.prog W base spare held 42 v d ps) : ∃ x : TXin, v = .agg (tbC x.t).toArray ∧ Rds W [Res.rd x.t.v x.t.com.length 4 (natCells x.t.com)] := by
 simp only [Value.okWide, Tryz.underlying42] at hval
 obtain ⟨cs, rfl, _, _⟩ := hval
 obtain ⟨m, hm⟩ := h
 obtain ⟨x, hx, hr⟩ := came_tb (cs := cs.toList) ⟨_, _, _, m, _, hm⟩
 exact ⟨x, by show Value.agg cs = Value.agg (tbC x.t).toArray; rw [← hx], hr⟩
end Go.Proofs.YtmhiapebljfebaaGreatDoor

/- sync.Once: who asks first has it done, who asks again finds it done. (Turned from a worked proof: Lazy.) -/
namespace Go.Proofs.YtmhiapebljfebaaGreatDoor
open Go.RowKit
theorem once_disable (w : World) : (callFunc 230 #[]).run Tryz.prog w = .ok (.value (.tuple #[])) w := run_call_mark0 Tryz.func230 (by kernel_rfl) (by kernel_rfl) (by kernel_rfl) .disable (by kernel_rfl) w
theorem once_enable (w : World) : (callFunc 232 #[]).run Tryz.prog w = .ok (.value (.tuple #[])) w := run_call_mark0 Tryz.func232 (by kernel_rfl) (by kernel_rfl) (by kernel_rfl) .enable (by kernel_rfl) w
theorem once_acquire (a : Addr) (w : World) : (callFunc 233 #[.pointer (some a)]).run Tryz.prog w = .ok (.value (.tuple #[])) w := run_call_marked Tryz.func233 (by kernel_rfl) (by kernel_rfl) (by kernel_rfl) .acquire (by kernel_rfl) a w
theorem once_release (a : Addr) (w : World) : (callFunc 235 #[.pointer (some a)]).run Tryz.prog w = .ok (.value (.tuple #[])) w := run_call_marked Tryz.func235 (by kernel_rfl) (by kernel_rfl) (by kernel_rfl) .releaseMerge (by kernel_rfl) a w
theorem once_store (a : Addr) (x : Value) (u : FrameMode) (w : World) (hc : w.cell? a = some x) (hz : w.frozen? a = false) :
  CallsD Tryz.prog 225 #[.pointer (some a), .bool true] u w fun e u' w' => u' = u ∧ (e = .returned (.tuple #[]) ∧ w' = w.drew.setCell a (.int .u32 1)) := by
 have hc' : w.drew.cell? a = some x := by go_simp
 have hz' : w.drew.frozen? a = false := by go_simp
 have hst := run_call_store (P := Tryz.prog) Tryz.func228 (by kernel_rfl) (by kernel_rfl) (by kernel_rfl) (by kernel_rfl) (k := .u32) (y := 1) hc' hz'
 go_enter_d Tryz.func225, Tryz.ntmps225
 go_wp2
 go_region_calls
 all_goals (go_end0; exact ⟨rfl, rfl⟩)
set_option maxRecDepth 100000 in
set_option maxHeartbeats 1600000 in
theorem once_unlock (a : Addr) (u : FrameMode) (w : World) (hc : w.cell? a = some (.int .i32 1)) (hz : w.frozen? a = false) :
  CallsD Tryz.prog 224 #[.pointer (some a)] u w fun e u' w' => u' = u ∧ (e = .returned (.tuple #[]) ∧ w' = w.setCell a (.int .i32 0)) := by
 have hd := once_disable
 have he := once_enable
 have hr := once_release
 have hadd := run_call_add (P := Tryz.prog) Tryz.func236 (by kernel_rfl) (by kernel_rfl) (by kernel_rfl) .i32 (by kernel_rfl) (y := -1) (s := 0) hc hz (by simp [go_sem]; rfl)
 have hcv := run_convert_to_unsafe (P := Tryz.prog) (src := 292) (dst := 296) Tryz.underlying292 Tryz.underlying296 (by kernel_rfl) hc
 go_enter_d Tryz.func224, Tryz.ntmps224
 go_wp2
 go_end0
 go_wp2
 go_end0
 exact ⟨rfl, rfl⟩
set_option maxRecDepth 100000 in
set_option maxHeartbeats 1600000 in
theorem once_lock (a : Addr) (w : World) (hc : w.cell? a = some (.int .i32 0)) (hz : w.frozen? a = false) :
  Calls Tryz.prog 223 #[.pointer (some a)] w fun e w' => e = .returned (.tuple #[]) ∧ w' = w.setCell a (.int .i32 1) := by
 have hd := once_disable
 have he := once_enable
 have ha := once_acquire
 have hcas := run_call_cas_hit (P := Tryz.prog) Tryz.func231 (by kernel_rfl) (by kernel_rfl) (by kernel_rfl) .i32 (by kernel_rfl) (y := 1) hc hz
 have hc' : (w.setCell a (.int .i32 1)).cell? a = some (.int .i32 1) := World.cell?_setCell_same w a _ hc
 have hcv := run_convert_to_unsafe (P := Tryz.prog) (src := 292) (dst := 296) Tryz.underlying292 Tryz.underlying296 (by kernel_rfl) hc'
 go_enter Tryz.func223, Tryz.ntmps223
 go_wp2
 first | go_end0 | (simp only [Exit.inBlock, Exit.then]; refine bodyPost_ret (results_none rfl _ _ _) rfl ?_) | refine bodyPost_ret (results_none rfl _ _ _) rfl ?_
 go_wp2
 go_end0
 exact ⟨rfl, rfl⟩
def OnceR (b off : Nat) (K : World → Prop) (e : Ending) (w : World) : Prop := e = .returned (.tuple #[]) ∧ K w ∧ w.cell? ⟨b, off, none⟩ = some (.int .u32 0) ∧ w.cell? ⟨b, off + 1, none⟩ = some (.int .i32 1) ∧ w.frozen? ⟨b, off, none⟩ = false ∧ w.frozen? ⟨b, off + 1, none⟩ = false
set_option maxRecDepth 100000 in
set_option maxHeartbeats 1600000 in
theorem once_slow (b off : Nat) (cap : Array Value) (K : World → Prop) (w : World) (h0 : w.cell? ⟨b, off, none⟩ = some (.int .u32 0)) (h1 : w.cell? ⟨b, off + 1, none⟩ = some (.int .i32 0))
  (f0 : w.frozen? ⟨b, off, none⟩ = false) (f1 : w.frozen? ⟨b, off + 1, none⟩ = false)
  (hf : Calls Tryz.prog 211 cap (w.setCell ⟨b, off + 1, none⟩ (.int .i32 1)) (OnceR b off K)) :
  Calls Tryz.prog 220 #[.pointer (some ⟨b, off, none⟩), .func (.func 211) #[] cap] w fun e w' => e = .returned (.tuple #[]) ∧
   ∃ w2, K w2 ∧ w' = (w2.drew.setCell ⟨b, off, none⟩ (.int .u32 1)).setCell ⟨b, off + 1, none⟩ (.int .i32 0) := by
 have hl := run_call_load (P := Tryz.prog) Tryz.func222 (by kernel_rfl) (by kernel_rfl) (by kernel_rfl) .u32 (by kernel_rfl) (w := w.setCell ⟨b, off + 1, none⟩ (.int .i32 1)) (a := ⟨b, off, none⟩) (x := 0) ((World.cell?_setCell_other _ ⟨b, off + 1, none⟩ ⟨b, off, none⟩ _ (by simp)).trans h0)
 have hnot : ∀ (x : Bool) (w : World), (Op.unary .not (.bool x)).run Tryz.prog w = .ok (.bool (!x)) w := fun _ _ => rfl
 go_enter_defers Tryz.func220, Tryz.ntmps220
 go_wp2_with (first | (go_at_call 223; refine (once_lock ⟨b, off + 1, none⟩ _ (by go_simp) (by go_simp)).mono ?_; rintro e w' ⟨rfl, rfl⟩) | (go_at_call 211; refine hf.mono ?_; rintro e w2 ⟨rfl, hK, k0, k1, z0, z1⟩) | (go_at_call 219; go_in))
 refine leaves_cons (f := 225) (args := #[.pointer (some ⟨b, off, none⟩), .bool true]) (by simp) (by simp [go_sem]) ?_
 refine (once_store ⟨b, off, none⟩ (.int .u32 0) .returning _ k0 z0).mono ?_
 rintro e u' w'' ⟨rfl, rfl, rfl⟩
 refine leaves_cons (f := 224) (args := #[.pointer (some ⟨b, off + 1, none⟩)]) (by simp [settle]) (by simp [go_sem]) ?_
 refine (once_unlock ⟨b, off + 1, none⟩ _ _ ?_ ?_).mono ?_
 ·refine (World.cell?_setCell_other _ ⟨b, off, none⟩ ⟨b, off + 1, none⟩ _ (by simp)).trans ?_
  rw [World.cell?_drew]; exact k1
 ·go_simp
 rintro e u' w'' ⟨rfl, rfl, rfl⟩
 simp [Leaves, settle, results, Tryz.results220]
 exact ⟨w2, hK, rfl⟩
set_option maxRecDepth 100000 in
set_option maxHeartbeats 1600000 in
theorem once_first (b off : Nat) (cap : Array Value) (K : World → Prop) (w : World) (h0 : w.cell? ⟨b, off, none⟩ = some (.int .u32 0)) (h1 : w.cell? ⟨b, off + 1, none⟩ = some (.int .i32 0))
  (f0 : w.frozen? ⟨b, off, none⟩ = false) (f1 : w.frozen? ⟨b, off + 1, none⟩ = false)
  (hf : Calls Tryz.prog 211 cap (w.setCell ⟨b, off + 1, none⟩ (.int .i32 1)) (OnceR b off K)) :
  Calls Tryz.prog 210 #[.pointer (some ⟨b, off, none⟩), .func (.func 211) #[] cap] w fun e w' => e = .returned (.tuple #[]) ∧
   ∃ w2, K w2 ∧ w' = (w2.drew.setCell ⟨b, off, none⟩ (.int .u32 1)).setCell ⟨b, off + 1, none⟩ (.int .i32 0) := by
 have hl := run_call_load (P := Tryz.prog) Tryz.func222 (by kernel_rfl) (by kernel_rfl) (by kernel_rfl) .u32 (by kernel_rfl) h0
 have hnot : ∀ (x : Bool) (w : World), (Op.unary .not (.bool x)).run Tryz.prog w = .ok (.bool (!x)) w := fun _ _ => rfl
 go_enter Tryz.func210, Tryz.ntmps210
 go_wp2_with (first | (go_at_call 220; refine (once_slow b off cap K _ h0 h1 f0 f1 hf).mono ?_; rintro e w' ⟨rfl, hK⟩) | (go_at_call 219; go_in))
 go_end0
 exact ⟨rfl, hK⟩
theorem once_again (a : Addr) (d : Int) (hd : ¬ d = 0) (fv : Value) (w : World) (h0 : w.cell? a = some (.int .u32 d)) :
  Calls Tryz.prog 210 #[.pointer (some a), fv] w fun e w' => e = .returned (.tuple #[]) ∧ w' = w := by
 have hl := run_call_load (P := Tryz.prog) Tryz.func222 (by kernel_rfl) (by kernel_rfl) (by kernel_rfl) .u32 (by kernel_rfl) h0
 have hnot : ∀ (x : Bool) (w : World), (Op.unary .not (.bool x)).run Tryz.prog w = .ok (.bool (!x)) w := fun _ _ => rfl
 have hd' : (d != 0) = true := by simp [hd]
 go_enter Tryz.func210, Tryz.ntmps210
 go_wp2
 go_end0
 exact ⟨rfl, rfl⟩
theorem cells_heap {b : Nat} {cs : List Value} {T : TypeId} {w : World} (h : w.heap[b]? = some (.cells cs.toArray T (0, 0))) (i : Nat) : w.cell? ⟨b, i, none⟩ = cs[i]? ∧ w.frozen? ⟨b, i, none⟩ = false := by
 constructor
 ·simp [World.cell?, h]
 ·simp [World.frozen?, h]
theorem St.set1 {C : Beg} {Γ H : RL} {w : World} {b : Nat} {cs : List Value} {T : TypeId} (h : St C Γ (Res.cells b cs T :: H) w) (i : Nat) (v : Value) : St C Γ (Res.cells b (cs.set i v) T :: H) (w.setCell ⟨b, i, none⟩ v) := by
 have hb := Res.cells_ok.1 (h.sat.hok _ (.head _))
 refine h.setBlock rfl rfl rfl (by simp [World.setCell]) ?_ fun k hk => ?_
 ·simp [World.setCell, Array.getElem?_modify, hb]
 ·simp [World.setCell, Array.getElem?_modify, Ne.symm hk]
end Go.Proofs.YtmhiapebljfebaaGreatDoor

/- Closed facts of the loaded program: sizes, places, bodies. Printed by a program of ours. -/
namespace Go.Proofs.YtmhiapebljfebaaGreatDoor
open Go.RowKit
set_option maxRecDepth 100000
theorem sz_22 : (Tryz.prog.info? 22).map (·.size) = some 1 := by kernel_rfl
theorem sz_117 : (Tryz.prog.info? 117).map (·.size) = some 5 := by kernel_rfl
theorem sz_120 : (Tryz.prog.info? 120).map (·.size) = some 9 := by kernel_rfl
theorem mkey_224 : MKey Tryz.prog 40 ntV := mkeyNat Tryz.underlying40 Tryz.underlying22 sz_22
theorem sz_55 : (Tryz.prog.info? 55).map (·.size) = some 12 := by kernel_rfl
theorem mkey_102 : MKey Tryz.prog 3 itK := MKey.int Tryz.underlying3
theorem mkey_103 : MKey Tryz.prog 3 itK := MKey.int Tryz.underlying3
theorem ext_193 (x y c : BitVec 64) (hc : c.toNat ≤ 1) (w : World) : (callFunc 193 #[u64 x, u64 y, u64 c]).run Tryz.prog w = .ok (.value (.tuple #[u64 (x + y + c), u64 (BitVec.ofNat 64 ((x.toNat + y.toNat + c.toNat) / 18446744073709551616))])) w := add64 Tryz.func193 rfl rfl (by kernel_rfl) (by kernel_rfl) x y c hc w
theorem ext_215 (x y c : BitVec 64) (hc : c.toNat ≤ 1) (w : World) : (callFunc 215 #[u64 x, u64 y, u64 c]).run Tryz.prog w = .ok (.value (.tuple #[u64 (x - y - c), u64 (if x.toNat < y.toNat + c.toNat then 1 else 0)])) w := sub64 Tryz.func215 rfl rfl (by kernel_rfl) (by kernel_rfl) x y c hc w
theorem agg_254 : Agg Tryz.prog 254 8 := Agg.mk Tryz.underlying254 rfl (by kernel_rfl)
theorem row_185_Len : Row Tryz.prog 185 "Len" 263 false := by unfold Row; kernel_rfl
theorem row_185_Less : Row Tryz.prog 185 "Less" 264 false := by unfold Row; kernel_rfl
theorem row_185_Swap : Row Tryz.prog 185 "Swap" 265 false := by unfold Row; kernel_rfl
theorem row_185_Pop : Row Tryz.prog 185 "Pop" 266 true := by unfold Row; kernel_rfl
theorem row_185_Push : Row Tryz.prog 185 "Push" 267 true := by unfold Row; kernel_rfl
theorem one_182 : One Tryz.prog 182 := One.mk Tryz.underlying182 rfl
theorem sz_187 : (Tryz.prog.info? 187).map (·.size) = some 5 := by kernel_rfl
theorem info_187 : (Tryz.prog.info? 187).map (fun i => (i.zero, i.size, i.bytes)) = some (some (Value.agg #[Value.int .i64 0, Value.int .u64 0, Value.int .u64 0, Value.int .u64 0, Value.int .u64 0]), 5, 40) := by kernel_rfl
theorem body_176 : Body Tryz.prog 176 := Body.mk Tryz.func176 rfl (by decide)
theorem body_178 : Body Tryz.prog 178 := Body.mk Tryz.func178 rfl (by decide)
theorem body_58 : Body Tryz.prog 58 := Body.mk Tryz.func58 rfl (by decide)
theorem body_59 : Body Tryz.prog 59 := Body.mk Tryz.func59 rfl (by decide)
theorem body_60 : Body Tryz.prog 60 := Body.mk Tryz.func60 rfl (by decide)
theorem body_61 : Body Tryz.prog 61 := Body.mk Tryz.func61 rfl (by decide)
theorem body_62 : Body Tryz.prog 62 := Body.mk Tryz.func62 rfl (by decide)
theorem sz_3 : (Tryz.prog.info? 3).map (·.size) = some 1 := by kernel_rfl
theorem bld_159 : Bld Tryz.prog 159 (fun i => (#[(0, 1), (1, 1), (2, 1)] : Array (Nat × Nat))[i]?) [.slice none 0 0, .int .i64 0, .int .i64 0] := by intro parts; kernel_rfl
theorem info_5 : (Tryz.prog.info? 5).map (fun i => (i.zero, i.size, i.bytes)) = some (some (Value.int .u8 0), 1, 1) := by kernel_rfl
theorem one_22 : One Tryz.prog 22 := One.mk Tryz.underlying22 rfl
theorem sz_5 : (Tryz.prog.info? 5).map (·.size) = some 1 := by kernel_rfl
theorem zero_40 : (Tryz.prog.info? 40).map (·.zero) = some (some (Value.agg #[Value.int .u64 0, Value.int .u64 0, Value.int .u64 0, Value.int .u64 0])) := by kernel_rfl
theorem one_5 : One Tryz.prog 5 := One.mk Tryz.underlying5 rfl
theorem mixed : Tryz.prog.follows .mixedOrders = true := by kernel_rfl
theorem agg_40 : Agg Tryz.prog 40 4 := Agg.mk Tryz.underlying40 rfl (by kernel_rfl)
theorem sz_40 : (Tryz.prog.info? 40).map (·.size) = some 4 := by kernel_rfl
theorem bld_218 : Bld Tryz.prog 218 (fun i => (#[(0, 1), (1, 1)] : Array (Nat × Nat))[i]?) [.slice none 0 0, .int .i64 0] := by intro parts; kernel_rfl
theorem fa_218_1 : FA Tryz.prog 218 1 1 := FA.mk (m := 0) Tryz.underlying218 rfl rfl (by kernel_rfl)
theorem one_31 : One Tryz.prog 31 := One.mk Tryz.underlying31 rfl
theorem fa_218_0 : FA Tryz.prog 218 0 0 := FA.mk (m := 0) Tryz.underlying218 rfl rfl (by kernel_rfl)
theorem sz_79 : (Tryz.prog.info? 79).map (·.size) = some 1 := by kernel_rfl
theorem sz_31 : (Tryz.prog.info? 31).map (·.size) = some 1 := by kernel_rfl
theorem one_79 : One Tryz.prog 79 := One.mk Tryz.underlying79 rfl
theorem body_151 : Body Tryz.prog 151 := Body.mk Tryz.func151 rfl (by decide)
theorem body_149 : Body Tryz.prog 149 := Body.mk Tryz.func149 rfl (by decide)
theorem body_150 : Body Tryz.prog 150 := Body.mk Tryz.func150 rfl (by decide)
theorem body_214 : Body Tryz.prog 214 := Body.mk Tryz.func214 rfl (by decide)
theorem body_160 : Body Tryz.prog 160 := Body.mk Tryz.func160 rfl (by decide)
theorem body_194 : Body Tryz.prog 194 := Body.mk Tryz.func194 rfl (by decide)
theorem body_52 : Body Tryz.prog 52 := Body.mk Tryz.func52 rfl (by decide)
theorem body_195 : Body Tryz.prog 195 := Body.mk Tryz.func195 rfl (by decide)
theorem body_164 : Body Tryz.prog 164 := Body.mk Tryz.func164 rfl (by decide)
theorem body_165 : Body Tryz.prog 165 := Body.mk Tryz.func165 rfl (by decide)
theorem bld_40 : Bld Tryz.prog 40 (fun i => some (i * 1, 1)) [.int .u64 0, .int .u64 0, .int .u64 0, .int .u64 0] := by intro parts; kernel_rfl
theorem body_163 : Body Tryz.prog 163 := Body.mk Tryz.func163 rfl (by decide)
theorem zero_254 : (Tryz.prog.info? 254).map (·.zero) = some (some (Value.agg #[Value.int .u64 0, Value.int .u64 0, Value.int .u64 0, Value.int .u64 0, Value.int .u64 0, Value.int .u64 0, Value.int .u64 0, Value.int .u64 0])) := by kernel_rfl
theorem sz_254 : (Tryz.prog.info? 254).map (·.size) = some 8 := by kernel_rfl
theorem body_147 : Body Tryz.prog 147 := Body.mk Tryz.func147 rfl (by decide)
theorem one_91 : One Tryz.prog 91 := One.mk Tryz.underlying91 rfl
theorem fa_179_0 : FA Tryz.prog 179 0 0 := FA.mk (m := 3) Tryz.underlying179 rfl rfl (by kernel_rfl)
theorem fa_179_2 : FA Tryz.prog 179 2 7 := FA.mk (m := 0) Tryz.underlying179 rfl rfl (by kernel_rfl)
theorem bld_254 : Bld Tryz.prog 254 (fun i => some (i * 1, 1)) [.int .u64 0, .int .u64 0, .int .u64 0, .int .u64 0, .int .u64 0, .int .u64 0, .int .u64 0, .int .u64 0] := by intro parts; kernel_rfl
theorem body_212 : Body Tryz.prog 212 := Body.mk Tryz.func212 rfl (by decide)
theorem fa_179_3 : FA Tryz.prog 179 3 8 := FA.mk (m := 3) Tryz.underlying179 rfl rfl (by kernel_rfl)
theorem body_213 : Body Tryz.prog 213 := Body.mk Tryz.func213 rfl (by decide)
theorem fa_179_1 : FA Tryz.prog 179 1 4 := FA.mk (m := 2) Tryz.underlying179 rfl rfl (by kernel_rfl)
theorem body_210 : Body Tryz.prog 210 := Body.mk Tryz.func210 rfl (by decide)
theorem body_113 : Body Tryz.prog 113 := Body.mk Tryz.func113 rfl (by decide)
theorem body_190 : Body Tryz.prog 190 := Body.mk Tryz.func190 rfl (by decide)
theorem body_192 : Body Tryz.prog 192 := Body.mk Tryz.func192 rfl (by decide)
theorem body_189 : Body Tryz.prog 189 := Body.mk Tryz.func189 rfl (by decide)
theorem zero_262 : (Tryz.prog.info? 262).map (·.zero) = some (some (Value.agg #[Value.int .u64 0, Value.int .u64 0, Value.int .u64 0, Value.int .u64 0, Value.int .u64 0, Value.int .u64 0])) := by kernel_rfl
theorem body_191 : Body Tryz.prog 191 := Body.mk Tryz.func191 rfl (by decide)
theorem body_161 : Body Tryz.prog 161 := Body.mk Tryz.func161 rfl (by decide)
theorem body_158 : Body Tryz.prog 158 := Body.mk Tryz.func158 rfl (by decide)
theorem body_159 : Body Tryz.prog 159 := Body.mk Tryz.func159 rfl (by decide)
theorem body_162 : Body Tryz.prog 162 := Body.mk Tryz.func162 rfl (by decide)
theorem bld_179 : Bld Tryz.prog 179 (fun i => (#[(0, 4), (4, 3), (7, 1), (8, 4)] : Array (Nat × Nat))[i]?) [.int .u64 0, .int .u64 0, .int .u64 0, .int .u64 0, .int .u32 0, .int .i32 0, .int .u32 0, .int .u64 0, .int .u64 0, .int .u64 0, .int .u64 0, .int .u64 0] := by intro parts; kernel_rfl
theorem agg_117 : Agg Tryz.prog 117 5 := Agg.mk Tryz.underlying117 rfl (by kernel_rfl)
theorem zero_117 : (Tryz.prog.info? 117).map (·.zero) = some (some (Value.agg #[Value.int .u64 0, Value.int .u64 0, Value.int .u64 0, Value.int .u64 0, Value.int .i64 0])) := by kernel_rfl
theorem fa_117_1 : FA Tryz.prog 117 1 4 := FA.mk (m := 0) Tryz.underlying117 rfl rfl (by kernel_rfl)
theorem one_3 : One Tryz.prog 3 := One.mk Tryz.underlying3 rfl
theorem fa_117_0 : FA Tryz.prog 117 0 0 := FA.mk (m := 3) Tryz.underlying117 rfl rfl (by kernel_rfl)
theorem fa_120_2 : FA Tryz.prog 120 2 8 := FA.mk (m := 0) Tryz.underlying120 rfl rfl (by kernel_rfl)
theorem one_118 : One Tryz.prog 118 := One.mk Tryz.underlying118 rfl
theorem body_209 : Body Tryz.prog 209 := Body.mk Tryz.func209 rfl (by decide)
theorem fa_120_0 : FA Tryz.prog 120 0 0 := FA.mk (m := 3) Tryz.underlying120 rfl rfl (by kernel_rfl)
theorem body_110 : Body Tryz.prog 110 := Body.mk Tryz.func110 rfl (by decide)
theorem fa_120_1 : FA Tryz.prog 120 1 4 := FA.mk (m := 3) Tryz.underlying120 rfl rfl (by kernel_rfl)
theorem body_111 : Body Tryz.prog 111 := Body.mk Tryz.func111 rfl (by decide)
theorem zf_3 : (Tryz.prog.info? 3).bind (·.zero) = some (Value.int .i64 0) := by kernel_rfl
theorem agg_120 : Agg Tryz.prog 120 9 := Agg.mk Tryz.underlying120 rfl (by kernel_rfl)
theorem zero_120 : (Tryz.prog.info? 120).map (·.zero) = some (some (Value.agg #[Value.int .u64 0, Value.int .u64 0, Value.int .u64 0, Value.int .u64 0, Value.int .u64 0, Value.int .u64 0, Value.int .u64 0, Value.int .u64 0, Value.slice none 0 0])) := by kernel_rfl
theorem body_157 : Body Tryz.prog 157 := Body.mk Tryz.func157 rfl (by decide)
theorem body_188 : Body Tryz.prog 188 := Body.mk Tryz.func188 rfl (by decide)
theorem body_156 : Body Tryz.prog 156 := Body.mk Tryz.func156 rfl (by decide)
theorem fa_165_2 : FA Tryz.prog 165 2 13 := FA.mk (m := 0) Tryz.underlying165 rfl rfl (by kernel_rfl)
theorem fa_165_0 : FA Tryz.prog 165 0 0 := FA.mk (m := 11) Tryz.underlying165 rfl rfl (by kernel_rfl)
theorem fa_55_0 : FA Tryz.prog 55 0 0 := FA.mk (m := 3) Tryz.underlying55 rfl rfl (by kernel_rfl)
theorem fa_165_1 : FA Tryz.prog 165 1 12 := FA.mk (m := 0) Tryz.underlying165 rfl rfl (by kernel_rfl)
theorem fa_55_1 : FA Tryz.prog 55 1 4 := FA.mk (m := 3) Tryz.underlying55 rfl rfl (by kernel_rfl)
theorem fa_55_2 : FA Tryz.prog 55 2 8 := FA.mk (m := 3) Tryz.underlying55 rfl rfl (by kernel_rfl)
theorem body_182 : Body Tryz.prog 182 := Body.mk Tryz.func182 rfl (by decide)
theorem one_28 : One Tryz.prog 28 := One.mk Tryz.underlying28 rfl
theorem body_120 : Body Tryz.prog 120 := Body.mk Tryz.func120 rfl (by decide)
theorem body_199 : Body Tryz.prog 199 := Body.mk Tryz.func199 rfl (by decide)
theorem body_168 : Body Tryz.prog 168 := Body.mk Tryz.func168 rfl (by decide)
theorem body_118 : Body Tryz.prog 118 := Body.mk Tryz.func118 rfl (by decide)
theorem body_200 : Body Tryz.prog 200 := Body.mk Tryz.func200 rfl (by decide)
theorem body_109 : Body Tryz.prog 109 := Body.mk Tryz.func109 rfl (by decide)
theorem agg_55 : Agg Tryz.prog 55 12 := Agg.mk Tryz.underlying55 rfl (by kernel_rfl)
theorem bld_165 : Bld Tryz.prog 165 (fun i => (#[(0, 12), (12, 1), (13, 1)] : Array (Nat × Nat))[i]?) [.int .u64 0, .int .u64 0, .int .u64 0, .int .u64 0, .int .u64 0, .int .u64 0, .int .u64 0, .int .u64 0, .int .u64 0, .int .u64 0, .int .u64 0, .int .u64 0, .pointer none, .pointer none] := by intro parts; kernel_rfl
theorem fa_187_1 : FA Tryz.prog 187 1 1 := FA.mk (m := 3) Tryz.underlying187 rfl rfl (by kernel_rfl)
theorem fa_187_0 : FA Tryz.prog 187 0 0 := FA.mk (m := 0) Tryz.underlying187 rfl rfl (by kernel_rfl)
theorem agg_187 : Agg Tryz.prog 187 5 := Agg.mk Tryz.underlying187 rfl (by kernel_rfl)
theorem zero_187 : (Tryz.prog.info? 187).map (·.zero) = some (some (Value.agg #[Value.int .i64 0, Value.int .u64 0, Value.int .u64 0, Value.int .u64 0, Value.int .u64 0])) := by kernel_rfl
theorem sz_182 : (Tryz.prog.info? 182).map (·.size) = some 1 := by kernel_rfl
theorem body_264 : Body Tryz.prog 264 := Body.mk Tryz.func264 rfl (by decide)
theorem body_265 : Body Tryz.prog 265 := Body.mk Tryz.func265 rfl (by decide)
theorem body_267 : Body Tryz.prog 267 := Body.mk Tryz.func267 rfl (by decide)
theorem body_263 : Body Tryz.prog 263 := Body.mk Tryz.func263 rfl (by decide)
theorem body_166 : Body Tryz.prog 166 := Body.mk Tryz.func166 rfl (by decide)
theorem body_167 : Body Tryz.prog 167 := Body.mk Tryz.func167 rfl (by decide)
theorem body_266 : Body Tryz.prog 266 := Body.mk Tryz.func266 rfl (by decide)
theorem body_117 : Body Tryz.prog 117 := Body.mk Tryz.func117 rfl (by decide)
theorem info_3 : (Tryz.prog.info? 3).map (fun i => (i.zero, i.size, i.bytes)) = some (some (Value.int .i64 0), 1, 8) := by kernel_rfl
theorem body_112 : Body Tryz.prog 112 := Body.mk Tryz.func112 rfl (by decide)
theorem zero_182 : (Tryz.prog.info? 182).map (·.zero) = some (some (Value.slice none 0 0)) := by kernel_rfl
theorem body_114 : Body Tryz.prog 114 := Body.mk Tryz.func114 rfl (by decide)
theorem bld_187 : Bld Tryz.prog 187 (fun i => (#[(0, 1), (1, 4)] : Array (Nat × Nat))[i]?) [.int .i64 0, .int .u64 0, .int .u64 0, .int .u64 0, .int .u64 0] := by intro parts; kernel_rfl
theorem body_115 : Body Tryz.prog 115 := Body.mk Tryz.func115 rfl (by decide)
theorem body_116 : Body Tryz.prog 116 := Body.mk Tryz.func116 rfl (by decide)
theorem body_53 : Body Tryz.prog 53 := Body.mk Tryz.func53 rfl (by decide)
theorem body_54 : Body Tryz.prog 54 := Body.mk Tryz.func54 rfl (by decide)
theorem info_40 : (Tryz.prog.info? 40).map (fun i => (i.zero, i.size, i.bytes)) = some (some (Value.agg #[Value.int .u64 0, Value.int .u64 0, Value.int .u64 0, Value.int .u64 0]), 4, 32) := by kernel_rfl
theorem one_38 : One Tryz.prog 38 := One.mk Tryz.underlying38 rfl
theorem fa_113_0 : FA Tryz.prog 113 0 0 := FA.mk (m := 0) Tryz.underlying113 rfl rfl (by kernel_rfl)
theorem body_177 : Body Tryz.prog 177 := Body.mk Tryz.func177 rfl (by decide)
theorem body_128 : Body Tryz.prog 128 := Body.mk Tryz.func128 rfl (by decide)
theorem body_169 : Body Tryz.prog 169 := Body.mk Tryz.func169 rfl (by decide)
theorem body_180 : Body Tryz.prog 180 := Body.mk Tryz.func180 rfl (by decide)
theorem body_179 : Body Tryz.prog 179 := Body.mk Tryz.func179 rfl (by decide)
theorem fa_113_1 : FA Tryz.prog 113 1 1 := FA.mk (m := 3) Tryz.underlying113 rfl rfl (by kernel_rfl)
theorem body_170 : Body Tryz.prog 170 := Body.mk Tryz.func170 rfl (by decide)
theorem info_156 : (Tryz.prog.info? 156).map (fun i => (i.zero, i.size, i.bytes)) = some (some (Value.nilFunc), 1, 8) := by kernel_rfl
theorem sz_156 : (Tryz.prog.info? 156).map (·.size) = some 1 := by kernel_rfl
theorem one_156 : One Tryz.prog 156 := One.mk Tryz.underlying156 rfl
theorem fa_24_2 : FA Tryz.prog 24 2 2 := FA.mk (m := 0) Tryz.underlying24 rfl rfl (by kernel_rfl)
theorem fa_24_3 : FA Tryz.prog 24 3 3 := FA.mk (m := 0) Tryz.underlying24 rfl rfl (by kernel_rfl)
theorem fa_24_4 : FA Tryz.prog 24 4 4 := FA.mk (m := 0) Tryz.underlying24 rfl rfl (by kernel_rfl)
theorem fa_24_5 : FA Tryz.prog 24 5 5 := FA.mk (m := 0) Tryz.underlying24 rfl rfl (by kernel_rfl)
theorem fa_24_0 : FA Tryz.prog 24 0 0 := FA.mk (m := 0) Tryz.underlying24 rfl rfl (by kernel_rfl)
theorem fa_24_1 : FA Tryz.prog 24 1 1 := FA.mk (m := 0) Tryz.underlying24 rfl rfl (by kernel_rfl)
theorem agg_24 : Agg Tryz.prog 24 7 := Agg.mk Tryz.underlying24 rfl (by kernel_rfl)
theorem body_87 : Body Tryz.prog 87 := Body.mk Tryz.func87 rfl (by decide)
theorem fa_100_1 : FA Tryz.prog 100 1 1 := FA.mk (m := 6) Tryz.underlying100 rfl rfl (by kernel_rfl)
theorem fa_100_7 : FA Tryz.prog 100 7 44 := FA.mk (m := 0) Tryz.underlying100 rfl rfl (by kernel_rfl)
theorem one_98 : One Tryz.prog 98 := One.mk Tryz.underlying98 rfl
theorem fa_100_6 : FA Tryz.prog 100 6 43 := FA.mk (m := 0) Tryz.underlying100 rfl rfl (by kernel_rfl)
theorem one_37 : One Tryz.prog 37 := One.mk Tryz.underlying37 rfl
theorem sz_101 : (Tryz.prog.info? 101).map (·.size) = some 1 := by kernel_rfl
theorem one_101 : One Tryz.prog 101 := One.mk Tryz.underlying101 rfl
theorem fa_105_0 : FA Tryz.prog 105 0 0 := FA.mk (m := 0) Tryz.underlying105 rfl rfl (by kernel_rfl)
theorem fa_105_3 : FA Tryz.prog 105 3 3 := FA.mk (m := 0) Tryz.underlying105 rfl rfl (by kernel_rfl)
theorem one_102 : One Tryz.prog 102 := One.mk Tryz.underlying102 rfl
theorem zf_4 : (Tryz.prog.info? 4).bind (·.zero) = some (Value.bool false) := by kernel_rfl
theorem fa_105_6 : FA Tryz.prog 105 6 6 := FA.mk (m := 0) Tryz.underlying105 rfl rfl (by kernel_rfl)
theorem body_65 : Body Tryz.prog 65 := Body.mk Tryz.func65 rfl (by decide)
theorem one_30 : One Tryz.prog 30 := One.mk Tryz.underlying30 rfl
theorem fa_100_0 : FA Tryz.prog 100 0 0 := FA.mk (m := 0) Tryz.underlying100 rfl rfl (by kernel_rfl)
theorem body_119 : Body Tryz.prog 119 := Body.mk Tryz.func119 rfl (by decide)
theorem bld_113 : Bld Tryz.prog 113 (fun i => (#[(0, 1), (1, 4)] : Array (Nat × Nat))[i]?) [.int .i64 0, .int .u64 0, .int .u64 0, .int .u64 0, .int .u64 0] := by intro parts; kernel_rfl
theorem body_127 : Body Tryz.prog 127 := Body.mk Tryz.func127 rfl (by decide)
theorem fa_42_1 : FA Tryz.prog 42 1 1 := FA.mk (m := 0) Tryz.underlying42 rfl rfl (by kernel_rfl)
theorem fa_100_2 : FA Tryz.prog 100 2 8 := FA.mk (m := 0) Tryz.underlying100 rfl rfl (by kernel_rfl)
theorem one_25 : One Tryz.prog 25 := One.mk Tryz.underlying25 rfl
theorem fa_105_1 : FA Tryz.prog 105 1 1 := FA.mk (m := 0) Tryz.underlying105 rfl rfl (by kernel_rfl)
theorem one_4 : One Tryz.prog 4 := One.mk Tryz.underlying4 rfl
theorem fa_42_4 : FA Tryz.prog 42 4 4 := FA.mk (m := 0) Tryz.underlying42 rfl rfl (by kernel_rfl)
theorem sz_4 : (Tryz.prog.info? 4).map (·.size) = some 1 := by kernel_rfl
theorem body_93 : Body Tryz.prog 93 := Body.mk Tryz.func93 rfl (by decide)
theorem sz_38 : (Tryz.prog.info? 38).map (·.size) = some 1 := by kernel_rfl
theorem fa_42_2 : FA Tryz.prog 42 2 2 := FA.mk (m := 0) Tryz.underlying42 rfl rfl (by kernel_rfl)
theorem fa_100_5 : FA Tryz.prog 100 5 42 := FA.mk (m := 0) Tryz.underlying100 rfl rfl (by kernel_rfl)
theorem fa_105_4 : FA Tryz.prog 105 4 4 := FA.mk (m := 0) Tryz.underlying105 rfl rfl (by kernel_rfl)
theorem fa_42_3 : FA Tryz.prog 42 3 3 := FA.mk (m := 0) Tryz.underlying42 rfl rfl (by kernel_rfl)
theorem fa_42_5 : FA Tryz.prog 42 5 5 := FA.mk (m := 3) Tryz.underlying42 rfl rfl (by kernel_rfl)
theorem body_121 : Body Tryz.prog 121 := Body.mk Tryz.func121 rfl (by decide)
theorem fa_105_2 : FA Tryz.prog 105 2 2 := FA.mk (m := 0) Tryz.underlying105 rfl rfl (by kernel_rfl)
theorem fa_105_5 : FA Tryz.prog 105 5 5 := FA.mk (m := 0) Tryz.underlying105 rfl rfl (by kernel_rfl)
theorem one_103 : One Tryz.prog 103 := One.mk Tryz.underlying103 rfl
theorem zf_40 : (Tryz.prog.info? 40).bind (·.zero) = some (Value.agg #[Value.int .u64 0, Value.int .u64 0, Value.int .u64 0, Value.int .u64 0]) := by kernel_rfl
theorem body_66 : Body Tryz.prog 66 := Body.mk Tryz.func66 rfl (by decide)
theorem fa_105_8 : FA Tryz.prog 105 8 11 := FA.mk (m := 0) Tryz.underlying105 rfl rfl (by kernel_rfl)
theorem body_122 : Body Tryz.prog 122 := Body.mk Tryz.func122 rfl (by decide)
theorem fa_105_7 : FA Tryz.prog 105 7 7 := FA.mk (m := 3) Tryz.underlying105 rfl rfl (by kernel_rfl)
theorem info_106 : (Tryz.prog.info? 106).map (fun i => (i.zero, i.size, i.bytes)) = some (some (Value.nilFunc), 1, 8) := by kernel_rfl
theorem fa_42_0 : FA Tryz.prog 42 0 0 := FA.mk (m := 0) Tryz.underlying42 rfl rfl (by kernel_rfl)
theorem body_63 : Body Tryz.prog 63 := Body.mk Tryz.func63 rfl (by decide)
theorem body_64 : Body Tryz.prog 64 := Body.mk Tryz.func64 rfl (by decide)
theorem body_29 : Body Tryz.prog 29 := Body.mk Tryz.func29 rfl (by decide)
theorem sz_106 : (Tryz.prog.info? 106).map (·.size) = some 1 := by kernel_rfl
theorem one_106 : One Tryz.prog 106 := One.mk Tryz.underlying106 rfl
theorem agg_42 : Agg Tryz.prog 42 9 := Agg.mk Tryz.underlying42 rfl (by kernel_rfl)
theorem body_14 : Body Tryz.prog 14 := Body.mk Tryz.func14 rfl (by decide)
theorem body_16 : Body Tryz.prog 16 := Body.mk Tryz.func16 rfl (by decide)
theorem body_67 : Body Tryz.prog 67 := Body.mk Tryz.func67 rfl (by decide)
theorem info_22 : (Tryz.prog.info? 22).map (fun i => (i.zero, i.size, i.bytes)) = some (some (Value.int .u64 0), 1, 8) := by kernel_rfl
theorem body_48 : Body Tryz.prog 48 := Body.mk Tryz.func48 rfl (by decide)
theorem body_55 : Body Tryz.prog 55 := Body.mk Tryz.func55 rfl (by decide)
theorem body_56 : Body Tryz.prog 56 := Body.mk Tryz.func56 rfl (by decide)
theorem agg_35 : Agg Tryz.prog 35 32 := Agg.mk Tryz.underlying35 rfl (by kernel_rfl)
theorem bld_100 : Bld Tryz.prog 100 (fun i => (#[(0, 1), (1, 7), (8, 1), (9, 1), (10, 32), (42, 1), (43, 1), (44, 1)] : Array (Nat × Nat))[i]?) [.pointer none, .int .i64 0, .int .i64 0, .int .i64 0, .int .i64 0, .int .i64 0, .int .i64 0, .int .u64 0, .slice none 0 0, .int .u64 0, .int .u8 0, .int .u8 0, .int .u8 0, .int .u8 0, .int .u8 0, .int .u8 0, .int .u8 0, .int .u8 0, .int .u8 0, .int .u8 0, .int .u8 0, .int .u8 0, .int .u8 0, .int .u8 0, .int .u8 0, .int .u8 0, .int .u8 0, .int .u8 0, .int .u8 0, .int .u8 0, .int .u8 0, .int .u8 0, .int .u8 0, .int .u8 0, .int .u8 0, .int .u8 0, .int .u8 0, .int .u8 0, .int .u8 0, .int .u8 0, .int .u8 0, .int .u8 0, .slice none 0 0, .slice none 0 0, .slice none 0 0] := by intro parts; kernel_rfl
theorem body_57 : Body Tryz.prog 57 := Body.mk Tryz.func57 rfl (by decide)
theorem bld_105 : Bld Tryz.prog 105 (fun i => (#[(0, 1), (1, 1), (2, 1), (3, 1), (4, 1), (5, 1), (6, 1), (7, 4), (11, 1)] : Array (Nat × Nat))[i]?) [.slice none 0 0, .bool false, .bool false, .map none, .map none, .map none, .map none, .int .u64 0, .int .u64 0, .int .u64 0, .int .u64 0, .bool false] := by intro parts; kernel_rfl
theorem info_101 : (Tryz.prog.info? 101).map (fun i => (i.zero, i.size, i.bytes)) = some (some (Value.pointer none), 1, 8) := by kernel_rfl
theorem sz_98 : (Tryz.prog.info? 98).map (·.size) = some 1 := by kernel_rfl
theorem zero_55 : (Tryz.prog.info? 55).map (·.zero) = some (some (Value.agg #[Value.int .u64 0, Value.int .u64 0, Value.int .u64 0, Value.int .u64 0, Value.int .u64 0, Value.int .u64 0, Value.int .u64 0, Value.int .u64 0, Value.int .u64 0, Value.int .u64 0, Value.int .u64 0, Value.int .u64 0])) := by kernel_rfl
theorem bld_117 : Bld Tryz.prog 117 (fun i => (#[(0, 4), (4, 1)] : Array (Nat × Nat))[i]?) [.int .u64 0, .int .u64 0, .int .u64 0, .int .u64 0, .int .i64 0] := by intro parts; kernel_rfl
theorem info_117 : (Tryz.prog.info? 117).map (fun i => (i.zero, i.size, i.bytes)) = some (some (Value.agg #[Value.int .u64 0, Value.int .u64 0, Value.int .u64 0, Value.int .u64 0, Value.int .i64 0]), 5, 40) := by kernel_rfl
theorem bld_120 : Bld Tryz.prog 120 (fun i => (#[(0, 4), (4, 4), (8, 1)] : Array (Nat × Nat))[i]?) [.int .u64 0, .int .u64 0, .int .u64 0, .int .u64 0, .int .u64 0, .int .u64 0, .int .u64 0, .int .u64 0, .slice none 0 0] := by intro parts; kernel_rfl
theorem bld_55 : Bld Tryz.prog 55 (fun i => (#[(0, 4), (4, 4), (8, 4)] : Array (Nat × Nat))[i]?) [.int .u64 0, .int .u64 0, .int .u64 0, .int .u64 0, .int .u64 0, .int .u64 0, .int .u64 0, .int .u64 0, .int .u64 0, .int .u64 0, .int .u64 0, .int .u64 0] := by intro parts; kernel_rfl
theorem info_120 : (Tryz.prog.info? 120).map (fun i => (i.zero, i.size, i.bytes)) = some (some (Value.agg #[Value.int .u64 0, Value.int .u64 0, Value.int .u64 0, Value.int .u64 0, Value.int .u64 0, Value.int .u64 0, Value.int .u64 0, Value.int .u64 0, Value.slice none 0 0]), 9, 88) := by kernel_rfl
theorem body_18 : Body Tryz.prog 18 := Body.mk Tryz.func18 rfl (by decide)
theorem body_51 : Body Tryz.prog 51 := Body.mk Tryz.func51 rfl (by decide)
theorem zero_24 : (Tryz.prog.info? 24).map (·.zero) = some (some (Value.agg #[Value.int .i64 0, Value.int .i64 0, Value.int .i64 0, Value.int .i64 0, Value.int .i64 0, Value.int .i64 0, Value.int .u64 0])) := by kernel_rfl
theorem bld_24 : Bld Tryz.prog 24 (fun i => (#[(0, 1), (1, 1), (2, 1), (3, 1), (4, 1), (5, 1), (6, 1)] : Array (Nat × Nat))[i]?) [.int .i64 0, .int .i64 0, .int .i64 0, .int .i64 0, .int .i64 0, .int .i64 0, .int .u64 0] := by intro parts; kernel_rfl
theorem sz_24 : (Tryz.prog.info? 24).map (·.size) = some 7 := by kernel_rfl
theorem body_10 : Body Tryz.prog 10 := Body.mk Tryz.func10 rfl (by decide)
theorem body_19 : Body Tryz.prog 19 := Body.mk Tryz.func19 rfl (by decide)
theorem bld_35 : Bld Tryz.prog 35 (fun i => some (i * 1, 1)) [.int .u8 0, .int .u8 0, .int .u8 0, .int .u8 0, .int .u8 0, .int .u8 0, .int .u8 0, .int .u8 0, .int .u8 0, .int .u8 0, .int .u8 0, .int .u8 0, .int .u8 0, .int .u8 0, .int .u8 0, .int .u8 0, .int .u8 0, .int .u8 0, .int .u8 0, .int .u8 0, .int .u8 0, .int .u8 0, .int .u8 0, .int .u8 0, .int .u8 0, .int .u8 0, .int .u8 0, .int .u8 0, .int .u8 0, .int .u8 0, .int .u8 0, .int .u8 0] := by intro parts; kernel_rfl
theorem body_11 : Body Tryz.prog 11 := Body.mk Tryz.func11 rfl (by decide)
theorem bld_42 : Bld Tryz.prog 42 (fun i => (#[(0, 1), (1, 1), (2, 1), (3, 1), (4, 1), (5, 4)] : Array (Nat × Nat))[i]?) [.int .i64 0, .int .i64 0, .int .i64 0, .int .i64 0, .slice none 0 0, .int .u64 0, .int .u64 0, .int .u64 0, .int .u64 0] := by intro parts; kernel_rfl
theorem body_12 : Body Tryz.prog 12 := Body.mk Tryz.func12 rfl (by decide)
theorem body_24 : Body Tryz.prog 24 := Body.mk Tryz.func24 rfl (by decide)
theorem body_13 : Body Tryz.prog 13 := Body.mk Tryz.func13 rfl (by decide)
theorem body_17 : Body Tryz.prog 17 := Body.mk Tryz.func17 rfl (by decide)
theorem body_9 : Body Tryz.prog 9 := Body.mk Tryz.func9 rfl (by decide)
theorem zero_42 : (Tryz.prog.info? 42).map (·.zero) = some (some (Value.agg #[Value.int .i64 0, Value.int .i64 0, Value.int .i64 0, Value.int .i64 0, Value.slice none 0 0, Value.int .u64 0, Value.int .u64 0, Value.int .u64 0, Value.int .u64 0])) := by kernel_rfl
theorem sz_42 : (Tryz.prog.info? 42).map (·.size) = some 9 := by kernel_rfl
theorem fa_145_0 : FA Tryz.prog 145 0 0 := FA.mk (m := 0) Tryz.underlying145 rfl rfl (by kernel_rfl)
theorem body_125 : Body Tryz.prog 125 := Body.mk Tryz.func125 rfl (by decide)
theorem body_148 : Body Tryz.prog 148 := Body.mk Tryz.func148 rfl (by decide)
theorem zero_126 : (Tryz.prog.info? 126).map (·.zero) = some (some (Value.agg #[Value.int .i64 0, Value.int .i64 0, Value.int .i64 0, Value.int .i64 0, Value.int .i64 0, Value.int .i64 0, Value.int .i64 0, Value.int .i64 0, Value.int .i64 0, Value.int .i64 0, Value.int .i64 0, Value.int .i64 0, Value.int .i64 0, Value.int .i64 0, Value.int .i64 0, Value.int .i64 0, Value.int .i64 0, Value.int .i64 0, Value.int .i64 0, Value.int .i64 0, Value.int .i64 0, Value.int .i64 0, Value.int .i64 0, Value.int .i64 0, Value.int .i64 0, Value.int .i64 0, Value.int .i64 0, Value.int .i64 0, Value.int .i64 0, Value.int .i64 0, Value.int .i64 0, Value.int .i64 0, Value.int .i64 0, Value.int .i64 0, Value.int .i64 0, Value.int .i64 0, Value.int .i64 0, Value.int .i64 0, Value.int .i64 0, Value.int .i64 0, Value.int .i64 0, Value.int .i64 0, Value.int .i64 0, Value.int .i64 0, Value.int .i64 0, Value.int .i64 0, Value.int .i64 0, Value.int .i64 0, Value.int .i64 0, Value.int .i64 0, Value.int .i64 0, Value.int .i64 0, Value.int .i64 0, Value.int .i64 0, Value.int .i64 0, Value.int .i64 0, Value.int .i64 0, Value.int .i64 0, Value.int .i64 0, Value.int .i64 0, Value.int .i64 0, Value.int .i64 0, Value.int .i64 0, Value.int .i64 0])) := by kernel_rfl
theorem agg_126 : Agg Tryz.prog 126 64 := Agg.mk Tryz.underlying126 rfl (by kernel_rfl)
theorem sz_126 : (Tryz.prog.info? 126).map (·.size) = some 64 := by kernel_rfl
theorem body_76 : Body Tryz.prog 76 := Body.mk Tryz.func76 rfl (by decide)
theorem body_94 : Body Tryz.prog 94 := Body.mk Tryz.func94 rfl (by decide)
theorem body_96 : Body Tryz.prog 96 := Body.mk Tryz.func96 rfl (by decide)
theorem body_98 : Body Tryz.prog 98 := Body.mk Tryz.func98 rfl (by decide)
theorem body_81 : Body Tryz.prog 81 := Body.mk Tryz.func81 rfl (by decide)
theorem body_101 : Body Tryz.prog 101 := Body.mk Tryz.func101 rfl (by decide)
theorem body_152 : Body Tryz.prog 152 := Body.mk Tryz.func152 rfl (by decide)
theorem body_103 : Body Tryz.prog 103 := Body.mk Tryz.func103 rfl (by decide)
theorem fa_159_2 : FA Tryz.prog 159 2 2 := FA.mk (m := 0) Tryz.underlying159 rfl rfl (by kernel_rfl)
theorem fa_159_0 : FA Tryz.prog 159 0 0 := FA.mk (m := 0) Tryz.underlying159 rfl rfl (by kernel_rfl)
theorem fa_159_1 : FA Tryz.prog 159 1 1 := FA.mk (m := 0) Tryz.underlying159 rfl rfl (by kernel_rfl)
theorem body_154 : Body Tryz.prog 154 := Body.mk Tryz.func154 rfl (by decide)
theorem body_153 : Body Tryz.prog 153 := Body.mk Tryz.func153 rfl (by decide)
theorem body_77 : Body Tryz.prog 77 := Body.mk Tryz.func77 rfl (by decide)
theorem body_155 : Body Tryz.prog 155 := Body.mk Tryz.func155 rfl (by decide)
theorem body_105 : Body Tryz.prog 105 := Body.mk Tryz.func105 rfl (by decide)
theorem body_107 : Body Tryz.prog 107 := Body.mk Tryz.func107 rfl (by decide)
theorem zero_145 : (Tryz.prog.info? 145).map (·.zero) = some (some (Value.agg #[Value.slice none 0 0])) := by kernel_rfl
theorem body_95 : Body Tryz.prog 95 := Body.mk Tryz.func95 rfl (by decide)
theorem body_97 : Body Tryz.prog 97 := Body.mk Tryz.func97 rfl (by decide)
theorem body_99 : Body Tryz.prog 99 := Body.mk Tryz.func99 rfl (by decide)
theorem body_100 : Body Tryz.prog 100 := Body.mk Tryz.func100 rfl (by decide)
theorem info_153 : (Tryz.prog.info? 153).map (fun i => (i.zero, i.size, i.bytes)) = some (some (Value.pointer none), 1, 8) := by kernel_rfl
theorem sz_153 : (Tryz.prog.info? 153).map (·.size) = some 1 := by kernel_rfl
theorem one_153 : One Tryz.prog 153 := One.mk Tryz.underlying153 rfl
theorem body_102 : Body Tryz.prog 102 := Body.mk Tryz.func102 rfl (by decide)
theorem body_104 : Body Tryz.prog 104 := Body.mk Tryz.func104 rfl (by decide)
theorem body_106 : Body Tryz.prog 106 := Body.mk Tryz.func106 rfl (by decide)
theorem body_108 : Body Tryz.prog 108 := Body.mk Tryz.func108 rfl (by decide)
theorem body_43 : Body Tryz.prog 43 := Body.mk Tryz.func43 rfl (by decide)
theorem body_44 : Body Tryz.prog 44 := Body.mk Tryz.func44 rfl (by decide)
theorem body_45 : Body Tryz.prog 45 := Body.mk Tryz.func45 rfl (by decide)
theorem body_46 : Body Tryz.prog 46 := Body.mk Tryz.func46 rfl (by decide)
theorem body_47 : Body Tryz.prog 47 := Body.mk Tryz.func47 rfl (by decide)
theorem body_49 : Body Tryz.prog 49 := Body.mk Tryz.func49 rfl (by decide)
theorem body_50 : Body Tryz.prog 50 := Body.mk Tryz.func50 rfl (by decide)
end Go.Proofs.YtmhiapebljfebaaGreatDoor
