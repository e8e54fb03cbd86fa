/- Closed facts of the loaded program: sizes, places, bodies. Printed by a program of ours. -/
import Derived.Test.YtmefjbmaghjpfaaA13
import Derived.Test.YtmefjbmaghjpfaaRows
import Derived.KernelRfl
namespace Go.Proofs.Ytmefjbmaghjpfaa
open Go.RowKit
set_option maxRecDepth 100000
theorem one_3 : One Try.prog 3 := One.mk Try.underlying3 rfl
theorem one_23 : One Try.prog 23 := One.mk Try.underlying23 rfl
theorem one_26 : One Try.prog 26 := One.mk Try.underlying26 rfl
theorem one_60 : One Try.prog 60 := One.mk Try.underlying60 rfl
theorem one_39 : One Try.prog 39 := One.mk Try.underlying39 rfl
theorem sz_59 : (Try.prog.info? 59).map (·.size) = some 3 := by kernel_rfl
theorem sz_35 : (Try.prog.info? 35).map (·.size) = some 2 := by kernel_rfl
theorem sz_26 : (Try.prog.info? 26).map (·.size) = some 1 := by kernel_rfl
theorem sz_62 : (Try.prog.info? 62).map (·.size) = some 2 := by kernel_rfl
theorem sz_28 : (Try.prog.info? 28).map (·.size) = some 2 := by kernel_rfl
theorem sz_31 : (Try.prog.info? 31).map (·.size) = some 1 := by kernel_rfl
theorem sz_46 : (Try.prog.info? 46).map (·.size) = some 2 := by kernel_rfl
theorem sz_39 : (Try.prog.info? 39).map (·.size) = some 1 := by kernel_rfl
theorem sz_41 : (Try.prog.info? 41).map (·.size) = some 1 := by kernel_rfl
theorem info_59 : (Try.prog.info? 59).map (fun i => (i.zero, i.size, i.bytes)) = some (some (Value.agg #[Value.int .u64 0, Value.int .i64 0, Value.int .u64 0]), 3, 24) := by kernel_rfl
theorem info_35 : (Try.prog.info? 35).map (fun i => (i.zero, i.size, i.bytes)) = some (some (Value.agg #[Value.int .u64 0, Value.int .i64 0]), 2, 16) := by kernel_rfl
theorem row_55_Len : Row Try.prog 55 "Len" 46 true := by unfold Row; kernel_rfl
theorem row_55_Less : Row Try.prog 55 "Less" 47 true := by unfold Row; kernel_rfl
theorem row_55_Pop : Row Try.prog 55 "Pop" 48 true := by unfold Row; kernel_rfl
theorem row_55_Push : Row Try.prog 55 "Push" 49 true := by unfold Row; kernel_rfl
theorem row_55_Swap : Row Try.prog 55 "Swap" 50 true := by unfold Row; kernel_rfl
theorem one_29 : One Try.prog 29 := One.mk Try.underlying29 rfl
theorem sz_43 : (Try.prog.info? 43).map (·.size) = some 3 := by kernel_rfl
theorem fa_62_0 : FA Try.prog 62 0 0 := FA.mk (m := 0) Try.underlying62 rfl rfl (by kernel_rfl)
theorem fa_59_0 : FA Try.prog 59 0 0 := FA.mk (m := 1) Try.underlying59 rfl rfl (by kernel_rfl)
theorem fa_35_0 : FA Try.prog 35 0 0 := FA.mk (m := 0) Try.underlying35 rfl rfl (by kernel_rfl)
theorem fa_59_1 : FA Try.prog 59 1 2 := FA.mk (m := 0) Try.underlying59 rfl rfl (by kernel_rfl)
theorem fa_62_1 : FA Try.prog 62 1 1 := FA.mk (m := 0) Try.underlying62 rfl rfl (by kernel_rfl)
theorem agg_59 : Agg Try.prog 59 3 := Agg.mk Try.underlying59 rfl (by kernel_rfl)
theorem mixed : Try.prog.follows .mixedOrders = true := by kernel_rfl
theorem body_25 : Body Try.prog 25 := Body.mk Try.func25 rfl (by decide)
theorem zero_59 : (Try.prog.info? 59).map (·.zero) = some (some (Value.agg #[Value.int .u64 0, Value.int .i64 0, Value.int .u64 0])) := by kernel_rfl
theorem body_47 : Body Try.prog 47 := Body.mk Try.func47 rfl (by decide)
theorem body_50 : Body Try.prog 50 := Body.mk Try.func50 rfl (by decide)
theorem body_49 : Body Try.prog 49 := Body.mk Try.func49 rfl (by decide)
theorem body_46 : Body Try.prog 46 := Body.mk Try.func46 rfl (by decide)
theorem body_26 : Body Try.prog 26 := Body.mk Try.func26 rfl (by decide)
theorem body_27 : Body Try.prog 27 := Body.mk Try.func27 rfl (by decide)
theorem body_48 : Body Try.prog 48 := Body.mk Try.func48 rfl (by decide)
theorem fa_28_0 : FA Try.prog 28 0 0 := FA.mk (m := 0) Try.underlying28 rfl rfl (by kernel_rfl)
theorem bld_62 : Bld Try.prog 62 (fun i => (#[(0, 1), (1, 1)] : Array (Nat × Nat))[i]?) [.slice none 0 0, .nilFunc] := by intro parts; kernel_rfl
theorem body_18 : Body Try.prog 18 := Body.mk Try.func18 rfl (by decide)
theorem bld_35 : Bld Try.prog 35 (fun i => (#[(0, 1), (1, 1)] : Array (Nat × Nat))[i]?) [.int .u64 0, .int .i64 0] := by intro parts; kernel_rfl
theorem fa_28_1 : FA Try.prog 28 1 1 := FA.mk (m := 0) Try.underlying28 rfl rfl (by kernel_rfl)
theorem bld_59 : Bld Try.prog 59 (fun i => (#[(0, 2), (2, 1)] : Array (Nat × Nat))[i]?) [.int .u64 0, .int .i64 0, .int .u64 0] := by intro parts; kernel_rfl
theorem body_19 : Body Try.prog 19 := Body.mk Try.func19 rfl (by decide)
theorem sz_23 : (Try.prog.info? 23).map (·.size) = some 1 := by kernel_rfl
theorem zero_35 : (Try.prog.info? 35).map (·.zero) = some (some (Value.agg #[Value.int .u64 0, Value.int .i64 0])) := by kernel_rfl
theorem agg_35 : Agg Try.prog 35 2 := Agg.mk Try.underlying35 rfl (by kernel_rfl)
theorem body_20 : Body Try.prog 20 := Body.mk Try.func20 rfl (by decide)
theorem body_11 : Body Try.prog 11 := Body.mk Try.func11 rfl (by decide)
theorem fa_35_1 : FA Try.prog 35 1 1 := FA.mk (m := 0) Try.underlying35 rfl rfl (by kernel_rfl)
theorem body_22 : Body Try.prog 22 := Body.mk Try.func22 rfl (by decide)
theorem body_28 : Body Try.prog 28 := Body.mk Try.func28 rfl (by decide)
theorem body_21 : Body Try.prog 21 := Body.mk Try.func21 rfl (by decide)
theorem body_23 : Body Try.prog 23 := Body.mk Try.func23 rfl (by decide)
theorem body_24 : Body Try.prog 24 := Body.mk Try.func24 rfl (by decide)
theorem bld_28 : Bld Try.prog 28 (fun i => (#[(0, 1), (1, 1)] : Array (Nat × Nat))[i]?) [.slice none 0 0, .int .u64 0] := by intro parts; kernel_rfl
theorem zero_28 : (Try.prog.info? 28).map (·.zero) = some (some (Value.agg #[Value.slice none 0 0, Value.int .u64 0])) := by kernel_rfl
theorem body_8 : Body Try.prog 8 := Body.mk Try.func8 rfl (by decide)
theorem fa_41_0 : FA Try.prog 41 0 0 := FA.mk (m := 0) Try.underlying41 rfl rfl (by kernel_rfl)
theorem fa_46_0 : FA Try.prog 46 0 0 := FA.mk (m := 0) Try.underlying46 rfl rfl (by kernel_rfl)
theorem bld_46 : Bld Try.prog 46 (fun i => (#[(0, 1), (1, 1)] : Array (Nat × Nat))[i]?) [.int .u64 0, .int .i64 0] := by intro parts; kernel_rfl
theorem info_46 : (Try.prog.info? 46).map (fun i => (i.zero, i.size, i.bytes)) = some (some (Value.agg #[Value.int .u64 0, Value.int .i64 0]), 2, 16) := by kernel_rfl
theorem zero_46 : (Try.prog.info? 46).map (·.zero) = some (some (Value.agg #[Value.int .u64 0, Value.int .i64 0])) := by kernel_rfl
theorem agg_46 : Agg Try.prog 46 2 := Agg.mk Try.underlying46 rfl (by kernel_rfl)
theorem fa_46_1 : FA Try.prog 46 1 1 := FA.mk (m := 0) Try.underlying46 rfl rfl (by kernel_rfl)
theorem body_7 : Body Try.prog 7 := Body.mk Try.func7 rfl (by decide)
theorem body_15 : Body Try.prog 15 := Body.mk Try.func15 rfl (by decide)
theorem body_13 : Body Try.prog 13 := Body.mk Try.func13 rfl (by decide)
theorem body_6 : Body Try.prog 6 := Body.mk Try.func6 rfl (by decide)
theorem body_9 : Body Try.prog 9 := Body.mk Try.func9 rfl (by decide)
theorem body_17 : Body Try.prog 17 := Body.mk Try.func17 rfl (by decide)
theorem bld_41 : Bld Try.prog 41 (fun i => (#[(0, 1)] : Array (Nat × Nat))[i]?) [.slice none 0 0] := by intro parts; kernel_rfl
theorem agg_43 : Agg Try.prog 43 3 := Agg.mk Try.underlying43 rfl (by kernel_rfl)
theorem zero_43 : (Try.prog.info? 43).map (·.zero) = some (some (Value.agg #[Value.int .i64 0, Value.int .i64 0, Value.int .u64 0])) := by kernel_rfl
theorem fa_43_0 : FA Try.prog 43 0 0 := FA.mk (m := 0) Try.underlying43 rfl rfl (by kernel_rfl)
theorem fa_43_2 : FA Try.prog 43 2 2 := FA.mk (m := 0) Try.underlying43 rfl rfl (by kernel_rfl)
theorem fa_43_1 : FA Try.prog 43 1 1 := FA.mk (m := 0) Try.underlying43 rfl rfl (by kernel_rfl)
theorem body_10 : Body Try.prog 10 := Body.mk Try.func10 rfl (by decide)
theorem body_12 : Body Try.prog 12 := Body.mk Try.func12 rfl (by decide)
theorem body_14 : Body Try.prog 14 := Body.mk Try.func14 rfl (by decide)
theorem body_16 : Body Try.prog 16 := Body.mk Try.func16 rfl (by decide)
end Go.Proofs.Ytmefjbmaghjpfaa
