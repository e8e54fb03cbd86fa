/- Closed facts of the loaded program: sizes, places, bodies. Printed by a program of ours. -/
import Derived.Test.YtffgimlkmfjgmaaK3
import Derived.Test.YtffgimlkmfjgmaaRows
import Derived.KernelRfl
namespace Go.Proofs.Ytffgimlkmfjgmaa
open Go.RowKit
set_option maxRecDepth 100000
theorem sz_22 : (Try.prog.info? 22).map (·.size) = some 1 := by kernel_rfl
theorem mkey_37 : MKey Try.prog 9 (fun a : List (BitVec 8) => Value.string (strOf a)) := MKey.str Try.underlying9
theorem sz_24 : (Try.prog.info? 24).map (·.size) = some 1 := by kernel_rfl
theorem info_24 : (Try.prog.info? 24).map (fun i => (i.zero, i.size, i.bytes)) = some (some (Value.slice none 0 0), 1, 24) := by kernel_rfl
theorem bld_39 : Bld Try.prog 39 (fun i => (#[(0, 1), (1, 1)] : Array (Nat × Nat))[i]?) [.slice none 0 0, .map none] := by intro parts; kernel_rfl
theorem bld_52 : Bld Try.prog 52 (fun i => (#[(0, 1), (1, 1)] : Array (Nat × Nat))[i]?) [.slice none 0 0, .slice none 0 0] := by intro parts; kernel_rfl
theorem info_5 : (Try.prog.info? 5).map (fun i => (i.zero, i.size, i.bytes)) = some (some (Value.int .u8 0), 1, 1) := by kernel_rfl
theorem one_22 : One Try.prog 22 := One.mk Try.underlying22 rfl
theorem sz_5 : (Try.prog.info? 5).map (·.size) = some 1 := by kernel_rfl
theorem zero_75 : (Try.prog.info? 75).map (·.zero) = some (some (Value.agg #[Value.int .u64 0, Value.int .u64 0, Value.int .u64 0, Value.int .u64 0])) := by kernel_rfl
theorem one_5 : One Try.prog 5 := One.mk Try.underlying5 rfl
theorem mixed : Try.prog.follows .mixedOrders = true := by kernel_rfl
theorem agg_75 : Agg Try.prog 75 4 := Agg.mk Try.underlying75 rfl (by kernel_rfl)
theorem sz_75 : (Try.prog.info? 75).map (·.size) = some 4 := by kernel_rfl
theorem body_39 : Body Try.prog 39 := Body.mk Try.func39 rfl (by decide)
theorem fa_57_0 : FA Try.prog 57 0 0 := FA.mk (m := 0) Try.underlying57 rfl rfl (by kernel_rfl)
theorem one_24 : One Try.prog 24 := One.mk Try.underlying24 rfl
theorem bld_75 : Bld Try.prog 75 (fun i => some (i * 1, 1)) [.int .u64 0, .int .u64 0, .int .u64 0, .int .u64 0] := by intro parts; kernel_rfl
theorem body_40 : Body Try.prog 40 := Body.mk Try.func40 rfl (by decide)
theorem body_35 : Body Try.prog 35 := Body.mk Try.func35 rfl (by decide)
theorem body_27 : Body Try.prog 27 := Body.mk Try.func27 rfl (by decide)
theorem bld_77 : Bld Try.prog 77 (fun i => (#[(0, 1), (1, 1)] : Array (Nat × Nat))[i]?) [.slice none 0 0, .int .i64 0] := by intro parts; kernel_rfl
theorem fa_77_1 : FA Try.prog 77 1 1 := FA.mk (m := 0) Try.underlying77 rfl rfl (by kernel_rfl)
theorem one_27 : One Try.prog 27 := One.mk Try.underlying27 rfl
theorem fa_77_0 : FA Try.prog 77 0 0 := FA.mk (m := 0) Try.underlying77 rfl rfl (by kernel_rfl)
theorem sz_27 : (Try.prog.info? 27).map (·.size) = some 1 := by kernel_rfl
theorem body_43 : Body Try.prog 43 := Body.mk Try.func43 rfl (by decide)
theorem body_41 : Body Try.prog 41 := Body.mk Try.func41 rfl (by decide)
theorem body_42 : Body Try.prog 42 := Body.mk Try.func42 rfl (by decide)
theorem body_31 : Body Try.prog 31 := Body.mk Try.func31 rfl (by decide)
theorem body_44 : Body Try.prog 44 := Body.mk Try.func44 rfl (by decide)
theorem body_11 : Body Try.prog 11 := Body.mk Try.func11 rfl (by decide)
theorem body_46 : Body Try.prog 46 := Body.mk Try.func46 rfl (by decide)
theorem body_25 : Body Try.prog 25 := Body.mk Try.func25 rfl (by decide)
theorem body_45 : Body Try.prog 45 := Body.mk Try.func45 rfl (by decide)
theorem body_24 : Body Try.prog 24 := Body.mk Try.func24 rfl (by decide)
theorem body_38 : Body Try.prog 38 := Body.mk Try.func38 rfl (by decide)
theorem fa_39_1 : FA Try.prog 39 1 1 := FA.mk (m := 0) Try.underlying39 rfl rfl (by kernel_rfl)
theorem one_37 : One Try.prog 37 := One.mk Try.underlying37 rfl
theorem zf_4 : (Try.prog.info? 4).bind (·.zero) = some (Value.bool false) := by kernel_rfl
theorem fa_39_0 : FA Try.prog 39 0 0 := FA.mk (m := 0) Try.underlying39 rfl rfl (by kernel_rfl)
theorem one_23 : One Try.prog 23 := One.mk Try.underlying23 rfl
theorem body_37 : Body Try.prog 37 := Body.mk Try.func37 rfl (by decide)
theorem body_15 : Body Try.prog 15 := Body.mk Try.func15 rfl (by decide)
theorem body_34 : Body Try.prog 34 := Body.mk Try.func34 rfl (by decide)
theorem body_23 : Body Try.prog 23 := Body.mk Try.func23 rfl (by decide)
theorem sz_23 : (Try.prog.info? 23).map (·.size) = some 1 := by kernel_rfl
theorem sz_37 : (Try.prog.info? 37).map (·.size) = some 1 := by kernel_rfl
theorem body_36 : Body Try.prog 36 := Body.mk Try.func36 rfl (by decide)
theorem fa_52_0 : FA Try.prog 52 0 0 := FA.mk (m := 0) Try.underlying52 rfl rfl (by kernel_rfl)
theorem body_17 : Body Try.prog 17 := Body.mk Try.func17 rfl (by decide)
theorem fa_52_1 : FA Try.prog 52 1 1 := FA.mk (m := 0) Try.underlying52 rfl rfl (by kernel_rfl)
theorem body_26 : Body Try.prog 26 := Body.mk Try.func26 rfl (by decide)
theorem zero_57 : (Try.prog.info? 57).map (·.zero) = some (some (Value.agg #[Value.slice none 0 0])) := by kernel_rfl
theorem body_28 : Body Try.prog 28 := Body.mk Try.func28 rfl (by decide)
theorem body_29 : Body Try.prog 29 := Body.mk Try.func29 rfl (by decide)
theorem body_30 : Body Try.prog 30 := Body.mk Try.func30 rfl (by decide)
theorem body_32 : Body Try.prog 32 := Body.mk Try.func32 rfl (by decide)
theorem body_33 : Body Try.prog 33 := Body.mk Try.func33 rfl (by decide)
theorem body_12 : Body Try.prog 12 := Body.mk Try.func12 rfl (by decide)
theorem body_18 : Body Try.prog 18 := Body.mk Try.func18 rfl (by decide)
theorem body_14 : Body Try.prog 14 := Body.mk Try.func14 rfl (by decide)
theorem body_8 : Body Try.prog 8 := Body.mk Try.func8 rfl (by decide)
theorem body_9 : Body Try.prog 9 := Body.mk Try.func9 rfl (by decide)
theorem body_10 : Body Try.prog 10 := Body.mk Try.func10 rfl (by decide)
theorem body_6 : Body Try.prog 6 := Body.mk Try.func6 rfl (by decide)
theorem body_7 : Body Try.prog 7 := Body.mk Try.func7 rfl (by decide)
theorem sz_41 : (Try.prog.info? 41).map (·.size) = some 3 := by kernel_rfl
theorem fa_41_2 : FA Try.prog 41 2 2 := FA.mk (m := 0) Try.underlying41 rfl rfl (by kernel_rfl)
theorem fa_41_0 : FA Try.prog 41 0 0 := FA.mk (m := 0) Try.underlying41 rfl rfl (by kernel_rfl)
theorem one_3 : One Try.prog 3 := One.mk Try.underlying3 rfl
theorem body_13 : Body Try.prog 13 := Body.mk Try.func13 rfl (by decide)
theorem body_16 : Body Try.prog 16 := Body.mk Try.func16 rfl (by decide)
theorem agg_41 : Agg Try.prog 41 3 := Agg.mk Try.underlying41 rfl (by kernel_rfl)
theorem zero_41 : (Try.prog.info? 41).map (·.zero) = some (some (Value.agg #[Value.int .i64 0, Value.int .i64 0, Value.slice none 0 0])) := by kernel_rfl
theorem body_19 : Body Try.prog 19 := Body.mk Try.func19 rfl (by decide)
theorem body_20 : Body Try.prog 20 := Body.mk Try.func20 rfl (by decide)
theorem fa_41_1 : FA Try.prog 41 1 1 := FA.mk (m := 0) Try.underlying41 rfl rfl (by kernel_rfl)
theorem body_21 : Body Try.prog 21 := Body.mk Try.func21 rfl (by decide)
theorem body_22 : Body Try.prog 22 := Body.mk Try.func22 rfl (by decide)
end Go.Proofs.Ytffgimlkmfjgmaa
