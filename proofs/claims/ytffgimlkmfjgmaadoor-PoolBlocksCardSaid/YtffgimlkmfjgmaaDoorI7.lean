/- What a tagged digest is of: the plain side. No program in sight. -/
import Derived.Test.YtffgimlkmfjgmaaDoorG11
import Derived.Test.YtffgimlkmfjgmaaDoorC8s
import Derived.Test.YtffgimlkmfjgmaaDoorA14
namespace Go.Proofs.YtffgimlkmfjgmaaDoor
open Go.RowKit
set_option linter.unusedVariables false
def n8 (n : Nat) : B8 := digs (BitVec.ofNat 64 n) 8
@[simp] theorem digs_len (n : BitVec 64) (k : Nat) : (digs n k).length = k := by simp [digs]
@[simp] theorem n8_len (n : Nat) : (n8 n).length = 8 := digs_len _ _
def itB (b : B8) : B8 := n8 b.length ++ b
def inB (tg : B8) (l : List B8) : B8 := n8 tg.length ++ tg ++ l.flatMap itB
theorem in_snoc {tg : B8} {L : Pcs} {k : Nat} (h : k < L.length) : n8 tg.length ++ tg ++ ((bytesP L).take k).flatMap itB ++ n8 (pcAt L k).2.length ++ (pcAt L k).2 = n8 tg.length ++ tg ++ ((bytesP L).take (k + 1)).flatMap itB := by
  rw [bytesP_get h, List.flatMap_append]
  simp [itB, List.append_assoc]
theorem in_le (tg : B8) (l : List B8) (k : Nat) : (n8 tg.length ++ tg ++ (l.take k).flatMap itB).length ≤ (inB tg l).length := by
  have e : l.flatMap itB = (l.take k).flatMap itB ++ (l.drop k).flatMap itB := by rw [← List.flatMap_append, List.take_append_drop]
  rw [inB, e]
  simp only [List.length_append]
  omega
theorem rd_num {v : Value} {n : BitVec 64} : Res.rd v (32 - 24) 1 (((((natBytes [n, 0, 0, 0]).map u8).drop (24 * 1))).take ((32 - 24) * 1)) = Res.rd v (digs n 8).length 1 ((digs n 8).map u8) := by
  have h := natBytes_drop n 8 (by decide)
  rw [digs_len, ← h, List.map_drop]
  rw [List.take_of_length_le (by simp)]
theorem digs_snoc (n : BitVec 64) {k : Nat} (h : k < 8) : ((digs n 8).take k).map u8 ++ [u8 ((n >>> (8 * (7 - k))).setWidth 8)] = ((digs n 8).take (k + 1)).map u8 := by
  have hg : (digs n 8)[k]? = some ((n >>> (8 * (7 - k))).setWidth 8) := by
    rw [digs, List.getElem?_map, List.getElem?_range h]
    rfl
  rw [List.take_add_one, hg, List.map_append]
  rfl
end Go.Proofs.YtffgimlkmfjgmaaDoor
