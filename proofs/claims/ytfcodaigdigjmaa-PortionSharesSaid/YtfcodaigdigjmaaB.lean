/- Closed facts of the loaded program: sizes, places, bodies. Printed by a program of ours. -/
import Derived.Test.YtfcodaigdigjmaaA11
import Derived.Test.YtfcodaigdigjmaaRows
import Derived.KernelRfl
namespace Go.Proofs.Ytfcodaigdigjmaa
open Go.RowKit
set_option maxRecDepth 100000
theorem sz_24 : (Try.prog.info? 24).map (·.size) = some 1 := by kernel_rfl
theorem ext_41 (x y c : BitVec 64) (hc : c.toNat ≤ 1) (w : World) : (callFunc 41 #[u64 x, u64 y, u64 c]).run Try.prog w = .ok (.value (.tuple #[u64 (x + y + c), u64 (BitVec.ofNat 64 ((x.toNat + y.toNat + c.toNat) / 18446744073709551616))])) w := add64 Try.func41 rfl rfl (by kernel_rfl) (by kernel_rfl) x y c hc w
theorem ext_49 (x y c : BitVec 64) (hc : c.toNat ≤ 1) (w : World) : (callFunc 49 #[u64 x, u64 y, u64 c]).run Try.prog w = .ok (.value (.tuple #[u64 (x - y - c), u64 (if x.toNat < y.toNat + c.toNat then 1 else 0)])) w := sub64 Try.func49 rfl rfl (by kernel_rfl) (by kernel_rfl) x y c hc w
theorem row_48_Len : Row Try.prog 48 "Len" 67 false := by unfold Row; kernel_rfl
theorem row_48_Less : Row Try.prog 48 "Less" 68 false := by unfold Row; kernel_rfl
theorem row_48_Swap : Row Try.prog 48 "Swap" 69 false := by unfold Row; kernel_rfl
theorem row_48_Pop : Row Try.prog 48 "Pop" 70 true := by unfold Row; kernel_rfl
theorem row_48_Push : Row Try.prog 48 "Push" 71 true := by unfold Row; kernel_rfl
theorem one_43 : One Try.prog 43 := One.mk Try.underlying43 rfl
theorem sz_50 : (Try.prog.info? 50).map (·.size) = some 5 := by kernel_rfl
theorem info_50 : (Try.prog.info? 50).map (fun i => (i.zero, i.size, i.bytes)) = some (some (Value.agg #[Value.int .i64 0, Value.int .u64 0, Value.int .u64 0, Value.int .u64 0, Value.int .u64 0]), 5, 40) := by kernel_rfl
theorem sz_3 : (Try.prog.info? 3).map (·.size) = some 1 := by kernel_rfl
theorem zero_32 : (Try.prog.info? 32).map (·.zero) = some (some (Value.agg #[Value.int .u64 0, Value.int .u64 0, Value.int .u64 0, Value.int .u64 0])) := by kernel_rfl
theorem one_24 : One Try.prog 24 := One.mk Try.underlying24 rfl
theorem mixed : Try.prog.follows .mixedOrders = true := by kernel_rfl
theorem agg_32 : Agg Try.prog 32 4 := Agg.mk Try.underlying32 rfl (by kernel_rfl)
theorem sz_32 : (Try.prog.info? 32).map (·.size) = some 4 := by kernel_rfl
theorem body_48 : Body Try.prog 48 := Body.mk Try.func48 rfl (by decide)
theorem body_32 : Body Try.prog 32 := Body.mk Try.func32 rfl (by decide)
theorem body_43 : Body Try.prog 43 := Body.mk Try.func43 rfl (by decide)
theorem body_44 : Body Try.prog 44 := Body.mk Try.func44 rfl (by decide)
theorem body_45 : Body Try.prog 45 := Body.mk Try.func45 rfl (by decide)
theorem body_31 : Body Try.prog 31 := Body.mk Try.func31 rfl (by decide)
theorem body_33 : Body Try.prog 33 := Body.mk Try.func33 rfl (by decide)
theorem bld_32 : Bld Try.prog 32 (fun i => some (i * 1, 1)) [.int .u64 0, .int .u64 0, .int .u64 0, .int .u64 0] := by intro parts; kernel_rfl
theorem body_21 : Body Try.prog 21 := Body.mk Try.func21 rfl (by decide)
theorem body_20 : Body Try.prog 20 := Body.mk Try.func20 rfl (by decide)
theorem body_27 : Body Try.prog 27 := Body.mk Try.func27 rfl (by decide)
theorem fa_50_1 : FA Try.prog 50 1 1 := FA.mk (m := 3) Try.underlying50 rfl rfl (by kernel_rfl)
theorem fa_50_0 : FA Try.prog 50 0 0 := FA.mk (m := 0) Try.underlying50 rfl rfl (by kernel_rfl)
theorem one_3 : One Try.prog 3 := One.mk Try.underlying3 rfl
theorem agg_50 : Agg Try.prog 50 5 := Agg.mk Try.underlying50 rfl (by kernel_rfl)
theorem zero_50 : (Try.prog.info? 50).map (·.zero) = some (some (Value.agg #[Value.int .i64 0, Value.int .u64 0, Value.int .u64 0, Value.int .u64 0, Value.int .u64 0])) := by kernel_rfl
theorem sz_43 : (Try.prog.info? 43).map (·.size) = some 1 := by kernel_rfl
theorem body_68 : Body Try.prog 68 := Body.mk Try.func68 rfl (by decide)
theorem body_69 : Body Try.prog 69 := Body.mk Try.func69 rfl (by decide)
theorem body_71 : Body Try.prog 71 := Body.mk Try.func71 rfl (by decide)
theorem body_67 : Body Try.prog 67 := Body.mk Try.func67 rfl (by decide)
theorem body_34 : Body Try.prog 34 := Body.mk Try.func34 rfl (by decide)
theorem body_35 : Body Try.prog 35 := Body.mk Try.func35 rfl (by decide)
theorem body_70 : Body Try.prog 70 := Body.mk Try.func70 rfl (by decide)
theorem body_29 : Body Try.prog 29 := Body.mk Try.func29 rfl (by decide)
theorem info_3 : (Try.prog.info? 3).map (fun i => (i.zero, i.size, i.bytes)) = some (some (Value.int .i64 0), 1, 8) := by kernel_rfl
theorem bld_40 : Bld Try.prog 40 (fun i => some (i * 1, 1)) [.int .i64 0, .int .i64 0] := by intro parts; kernel_rfl
theorem info_40 : (Try.prog.info? 40).map (fun i => (i.zero, i.size, i.bytes)) = some (some (Value.agg #[Value.int .i64 0, Value.int .i64 0]), 2, 16) := by kernel_rfl
theorem body_12 : Body Try.prog 12 := Body.mk Try.func12 rfl (by decide)
theorem zero_43 : (Try.prog.info? 43).map (·.zero) = some (some (Value.slice none 0 0)) := by kernel_rfl
theorem bld_50 : Bld Try.prog 50 (fun i => (#[(0, 1), (1, 4)] : Array (Nat × Nat))[i]?) [.int .i64 0, .int .u64 0, .int .u64 0, .int .u64 0, .int .u64 0] := by intro parts; kernel_rfl
theorem body_22 : Body Try.prog 22 := Body.mk Try.func22 rfl (by decide)
theorem body_23 : Body Try.prog 23 := Body.mk Try.func23 rfl (by decide)
theorem info_24 : (Try.prog.info? 24).map (fun i => (i.zero, i.size, i.bytes)) = some (some (Value.int .u64 0), 1, 8) := by kernel_rfl
theorem body_9 : Body Try.prog 9 := Body.mk Try.func9 rfl (by decide)
theorem body_16 : Body Try.prog 16 := Body.mk Try.func16 rfl (by decide)
theorem body_10 : Body Try.prog 10 := Body.mk Try.func10 rfl (by decide)
theorem body_30 : Body Try.prog 30 := Body.mk Try.func30 rfl (by decide)
theorem body_8 : Body Try.prog 8 := Body.mk Try.func8 rfl (by decide)
theorem body_17 : Body Try.prog 17 := Body.mk Try.func17 rfl (by decide)
theorem body_18 : Body Try.prog 18 := Body.mk Try.func18 rfl (by decide)
theorem body_19 : Body Try.prog 19 := Body.mk Try.func19 rfl (by decide)
theorem sz_40 : (Try.prog.info? 40).map (·.size) = some 2 := by kernel_rfl
theorem agg_40 : Agg Try.prog 40 2 := Agg.mk Try.underlying40 rfl (by kernel_rfl)
theorem zero_71 : (Try.prog.info? 71).map (·.zero) = some (some (Value.agg #[Value.int .i64 0, Value.int .i64 0, Value.int .i64 0, Value.int .i64 0, Value.int .i64 0, Value.int .i64 0, Value.int .i64 0, Value.int .i64 0, Value.int .i64 0, Value.int .i64 0, Value.int .i64 0, Value.int .i64 0, Value.int .i64 0, Value.int .i64 0, Value.int .i64 0, Value.int .i64 0, Value.int .i64 0, Value.int .i64 0, Value.int .i64 0, Value.int .i64 0, Value.int .i64 0, Value.int .i64 0, Value.int .i64 0, Value.int .i64 0, Value.int .i64 0, Value.int .i64 0, Value.int .i64 0, Value.int .i64 0, Value.int .i64 0, Value.int .i64 0, Value.int .i64 0, Value.int .i64 0, Value.int .i64 0, Value.int .i64 0, Value.int .i64 0, Value.int .i64 0, Value.int .i64 0, Value.int .i64 0, Value.int .i64 0, Value.int .i64 0, Value.int .i64 0, Value.int .i64 0, Value.int .i64 0, Value.int .i64 0, Value.int .i64 0, Value.int .i64 0, Value.int .i64 0, Value.int .i64 0, Value.int .i64 0, Value.int .i64 0, Value.int .i64 0, Value.int .i64 0, Value.int .i64 0, Value.int .i64 0, Value.int .i64 0, Value.int .i64 0, Value.int .i64 0, Value.int .i64 0, Value.int .i64 0, Value.int .i64 0, Value.int .i64 0, Value.int .i64 0, Value.int .i64 0, Value.int .i64 0])) := by kernel_rfl
theorem agg_71 : Agg Try.prog 71 64 := Agg.mk Try.underlying71 rfl (by kernel_rfl)
theorem sz_71 : (Try.prog.info? 71).map (·.size) = some 64 := by kernel_rfl
theorem body_37 : Body Try.prog 37 := Body.mk Try.func37 rfl (by decide)
theorem body_42 : Body Try.prog 42 := Body.mk Try.func42 rfl (by decide)
theorem body_38 : Body Try.prog 38 := Body.mk Try.func38 rfl (by decide)
theorem body_28 : Body Try.prog 28 := Body.mk Try.func28 rfl (by decide)
theorem body_40 : Body Try.prog 40 := Body.mk Try.func40 rfl (by decide)
theorem body_36 : Body Try.prog 36 := Body.mk Try.func36 rfl (by decide)
theorem zero_77 : (Try.prog.info? 77).map (·.zero) = some (some (Value.agg #[Value.int .u64 0, Value.int .u64 0, Value.int .u64 0, Value.int .u64 0, Value.int .u64 0, Value.int .u64 0, Value.int .u64 0, Value.int .u64 0])) := by kernel_rfl
theorem bld_77 : Bld Try.prog 77 (fun i => some (i * 1, 1)) [.int .u64 0, .int .u64 0, .int .u64 0, .int .u64 0, .int .u64 0, .int .u64 0, .int .u64 0, .int .u64 0] := by intro parts; kernel_rfl
theorem sz_77 : (Try.prog.info? 77).map (·.size) = some 8 := by kernel_rfl
theorem agg_77 : Agg Try.prog 77 8 := Agg.mk Try.underlying77 rfl (by kernel_rfl)
theorem body_47 : Body Try.prog 47 := Body.mk Try.func47 rfl (by decide)
theorem body_46 : Body Try.prog 46 := Body.mk Try.func46 rfl (by decide)
theorem body_39 : Body Try.prog 39 := Body.mk Try.func39 rfl (by decide)
theorem body_25 : Body Try.prog 25 := Body.mk Try.func25 rfl (by decide)
theorem body_24 : Body Try.prog 24 := Body.mk Try.func24 rfl (by decide)
theorem body_14 : Body Try.prog 14 := Body.mk Try.func14 rfl (by decide)
theorem info_32 : (Try.prog.info? 32).map (fun i => (i.zero, i.size, i.bytes)) = some (some (Value.agg #[Value.int .u64 0, Value.int .u64 0, Value.int .u64 0, Value.int .u64 0]), 4, 32) := by kernel_rfl
theorem info_4 : (Try.prog.info? 4).map (fun i => (i.zero, i.size, i.bytes)) = some (some (Value.bool false), 1, 1) := by kernel_rfl
theorem sz_4 : (Try.prog.info? 4).map (·.size) = some 1 := by kernel_rfl
theorem one_4 : One Try.prog 4 := One.mk Try.underlying4 rfl
theorem body_26 : Body Try.prog 26 := Body.mk Try.func26 rfl (by decide)
theorem body_11 : Body Try.prog 11 := Body.mk Try.func11 rfl (by decide)
theorem body_13 : Body Try.prog 13 := Body.mk Try.func13 rfl (by decide)
theorem body_15 : Body Try.prog 15 := Body.mk Try.func15 rfl (by decide)
end Go.Proofs.Ytfcodaigdigjmaa
