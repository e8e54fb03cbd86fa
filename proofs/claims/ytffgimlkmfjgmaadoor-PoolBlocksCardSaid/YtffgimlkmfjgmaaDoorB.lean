/- Closed facts of the loaded program: sizes, places, bodies. Printed by a program of ours. -/
import Derived.Test.YtffgimlkmfjgmaaDoorK3
import Derived.Test.YtffgimlkmfjgmaaDoorRows
import Derived.KernelRfl
namespace Go.Proofs.YtffgimlkmfjgmaaDoor
open Go.RowKit
set_option maxRecDepth 100000
theorem mkey_39 : MKey Tryd.prog 9 (fun a : List (BitVec 8) => Value.string (strOf a)) := MKey.str Tryd.underlying9
theorem sz_5 : (Tryd.prog.info? 5).map (·.size) = some 1 := by kernel_rfl
theorem sz_22 : (Tryd.prog.info? 22).map (·.size) = some 1 := by kernel_rfl
theorem sz_89 : (Tryd.prog.info? 89).map (·.size) = some 73 := by kernel_rfl
theorem info_24 : (Tryd.prog.info? 24).map (fun i => (i.zero, i.size, i.bytes)) = some (some (Value.slice none 0 0), 1, 24) := by kernel_rfl
theorem sz_24 : (Tryd.prog.info? 24).map (·.size) = some 1 := by kernel_rfl
theorem bld_41 : Bld Tryd.prog 41 (fun i => (#[(0, 1), (1, 1)] : Array (Nat × Nat))[i]?) [.slice none 0 0, .map none] := by intro parts; kernel_rfl
theorem bld_62 : Bld Tryd.prog 62 (fun i => (#[(0, 1), (1, 1), (2, 1)] : Array (Nat × Nat))[i]?) [.slice none 0 0, .int .i64 0, .int .i64 0] := by intro parts; kernel_rfl
theorem info_5 : (Tryd.prog.info? 5).map (fun i => (i.zero, i.size, i.bytes)) = some (some (Value.int .u8 0), 1, 1) := by kernel_rfl
theorem one_22 : One Tryd.prog 22 := One.mk Tryd.underlying22 rfl
theorem zero_72 : (Tryd.prog.info? 72).map (·.zero) = some (some (Value.agg #[Value.int .u64 0, Value.int .u64 0, Value.int .u64 0, Value.int .u64 0])) := by kernel_rfl
theorem one_5 : One Tryd.prog 5 := One.mk Tryd.underlying5 rfl
theorem mixed : Tryd.prog.follows .mixedOrders = true := by kernel_rfl
theorem agg_72 : Agg Tryd.prog 72 4 := Agg.mk Tryd.underlying72 rfl (by kernel_rfl)
theorem sz_72 : (Tryd.prog.info? 72).map (·.size) = some 4 := by kernel_rfl
theorem body_25 : Body Tryd.prog 25 := Body.mk Tryd.func25 rfl (by decide)
theorem body_42 : Body Tryd.prog 42 := Body.mk Tryd.func42 rfl (by decide)
theorem fa_48_0 : FA Tryd.prog 48 0 0 := FA.mk (m := 0) Tryd.underlying48 rfl rfl (by kernel_rfl)
theorem one_24 : One Tryd.prog 24 := One.mk Tryd.underlying24 rfl
theorem bld_72 : Bld Tryd.prog 72 (fun i => some (i * 1, 1)) [.int .u64 0, .int .u64 0, .int .u64 0, .int .u64 0] := by intro parts; kernel_rfl
theorem body_43 : Body Tryd.prog 43 := Body.mk Tryd.func43 rfl (by decide)
theorem body_38 : Body Tryd.prog 38 := Body.mk Tryd.func38 rfl (by decide)
theorem body_21 : Body Tryd.prog 21 := Body.mk Tryd.func21 rfl (by decide)
theorem bld_75 : Bld Tryd.prog 75 (fun i => (#[(0, 1), (1, 1)] : Array (Nat × Nat))[i]?) [.slice none 0 0, .int .i64 0] := by intro parts; kernel_rfl
theorem fa_75_1 : FA Tryd.prog 75 1 1 := FA.mk (m := 0) Tryd.underlying75 rfl rfl (by kernel_rfl)
theorem one_27 : One Tryd.prog 27 := One.mk Tryd.underlying27 rfl
theorem fa_75_0 : FA Tryd.prog 75 0 0 := FA.mk (m := 0) Tryd.underlying75 rfl rfl (by kernel_rfl)
theorem sz_27 : (Tryd.prog.info? 27).map (·.size) = some 1 := by kernel_rfl
theorem body_47 : Body Tryd.prog 47 := Body.mk Tryd.func47 rfl (by decide)
theorem body_45 : Body Tryd.prog 45 := Body.mk Tryd.func45 rfl (by decide)
theorem body_46 : Body Tryd.prog 46 := Body.mk Tryd.func46 rfl (by decide)
theorem body_28 : Body Tryd.prog 28 := Body.mk Tryd.func28 rfl (by decide)
theorem body_48 : Body Tryd.prog 48 := Body.mk Tryd.func48 rfl (by decide)
theorem body_67 : Body Tryd.prog 67 := Body.mk Tryd.func67 rfl (by decide)
theorem zero_86 : (Tryd.prog.info? 86).map (·.zero) = some (some (Value.agg #[Value.int .u32 0, Value.int .u32 0, Value.int .u32 0, Value.int .u32 0, Value.int .u32 0, Value.int .u32 0, Value.int .u32 0, Value.int .u32 0])) := by kernel_rfl
theorem fa_89_0 : FA Tryd.prog 89 0 0 := FA.mk (m := 7) Tryd.underlying89 rfl rfl (by kernel_rfl)
theorem agg_86 : Agg Tryd.prog 86 8 := Agg.mk Tryd.underlying86 rfl (by kernel_rfl)
theorem sz_86 : (Tryd.prog.info? 86).map (·.size) = some 8 := by kernel_rfl
theorem sz_85 : (Tryd.prog.info? 85).map (·.size) = some 1 := by kernel_rfl
theorem one_85 : One Tryd.prog 85 := One.mk Tryd.underlying85 rfl
theorem agg_89 : Agg Tryd.prog 89 73 := Agg.mk Tryd.underlying89 rfl (by kernel_rfl)
theorem zero_89 : (Tryd.prog.info? 89).map (·.zero) = some (some (Value.agg #[Value.int .u32 0, Value.int .u32 0, Value.int .u32 0, Value.int .u32 0, Value.int .u32 0, Value.int .u32 0, Value.int .u32 0, Value.int .u32 0, Value.int .u8 0, Value.int .u8 0, Value.int .u8 0, Value.int .u8 0, Value.int .u8 0, Value.int .u8 0, Value.int .u8 0, Value.int .u8 0, Value.int .u8 0, Value.int .u8 0, Value.int .u8 0, Value.int .u8 0, Value.int .u8 0, Value.int .u8 0, Value.int .u8 0, Value.int .u8 0, Value.int .u8 0, Value.int .u8 0, Value.int .u8 0, Value.int .u8 0, Value.int .u8 0, Value.int .u8 0, Value.int .u8 0, Value.int .u8 0, Value.int .u8 0, Value.int .u8 0, Value.int .u8 0, Value.int .u8 0, Value.int .u8 0, Value.int .u8 0, Value.int .u8 0, Value.int .u8 0, Value.int .u8 0, Value.int .u8 0, Value.int .u8 0, Value.int .u8 0, Value.int .u8 0, Value.int .u8 0, Value.int .u8 0, Value.int .u8 0, Value.int .u8 0, Value.int .u8 0, Value.int .u8 0, Value.int .u8 0, Value.int .u8 0, Value.int .u8 0, Value.int .u8 0, Value.int .u8 0, Value.int .u8 0, Value.int .u8 0, Value.int .u8 0, Value.int .u8 0, Value.int .u8 0, Value.int .u8 0, Value.int .u8 0, Value.int .u8 0, Value.int .u8 0, Value.int .u8 0, Value.int .u8 0, Value.int .u8 0, Value.int .u8 0, Value.int .u8 0, Value.int .u8 0, Value.int .u8 0, Value.int .u64 0])) := by kernel_rfl
theorem zero_93 : (Tryd.prog.info? 93).map (·.zero) = some (some (Value.agg #[Value.int .u32 0, Value.int .u32 0, Value.int .u32 0, Value.int .u32 0, Value.int .u32 0, Value.int .u32 0, Value.int .u32 0, Value.int .u32 0, Value.int .u32 0, Value.int .u32 0, Value.int .u32 0, Value.int .u32 0, Value.int .u32 0, Value.int .u32 0, Value.int .u32 0, Value.int .u32 0, Value.int .u32 0, Value.int .u32 0, Value.int .u32 0, Value.int .u32 0, Value.int .u32 0, Value.int .u32 0, Value.int .u32 0, Value.int .u32 0, Value.int .u32 0, Value.int .u32 0, Value.int .u32 0, Value.int .u32 0, Value.int .u32 0, Value.int .u32 0, Value.int .u32 0, Value.int .u32 0, Value.int .u32 0, Value.int .u32 0, Value.int .u32 0, Value.int .u32 0, Value.int .u32 0, Value.int .u32 0, Value.int .u32 0, Value.int .u32 0, Value.int .u32 0, Value.int .u32 0, Value.int .u32 0, Value.int .u32 0, Value.int .u32 0, Value.int .u32 0, Value.int .u32 0, Value.int .u32 0, Value.int .u32 0, Value.int .u32 0, Value.int .u32 0, Value.int .u32 0, Value.int .u32 0, Value.int .u32 0, Value.int .u32 0, Value.int .u32 0, Value.int .u32 0, Value.int .u32 0, Value.int .u32 0, Value.int .u32 0, Value.int .u32 0, Value.int .u32 0, Value.int .u32 0, Value.int .u32 0])) := by kernel_rfl
theorem fa_89_1 : FA Tryd.prog 89 1 8 := FA.mk (m := 63) Tryd.underlying89 rfl rfl (by kernel_rfl)
theorem body_64 : Body Tryd.prog 64 := Body.mk Tryd.func64 rfl (by decide)
theorem body_61 : Body Tryd.prog 61 := Body.mk Tryd.func61 rfl (by decide)
theorem body_65 : Body Tryd.prog 65 := Body.mk Tryd.func65 rfl (by decide)
theorem bld_86 : Bld Tryd.prog 86 (fun i => some (i * 1, 1)) [.int .u32 0, .int .u32 0, .int .u32 0, .int .u32 0, .int .u32 0, .int .u32 0, .int .u32 0, .int .u32 0] := by intro parts; kernel_rfl
theorem fa_89_2 : FA Tryd.prog 89 2 72 := FA.mk (m := 0) Tryd.underlying89 rfl rfl (by kernel_rfl)
theorem body_59 : Body Tryd.prog 59 := Body.mk Tryd.func59 rfl (by decide)
theorem bld_89 : Bld Tryd.prog 89 (fun i => (#[(0, 8), (8, 64), (72, 1)] : Array (Nat × Nat))[i]?) [.int .u32 0, .int .u32 0, .int .u32 0, .int .u32 0, .int .u32 0, .int .u32 0, .int .u32 0, .int .u32 0, .int .u8 0, .int .u8 0, .int .u8 0, .int .u8 0, .int .u8 0, .int .u8 0, .int .u8 0, .int .u8 0, .int .u8 0, .int .u8 0, .int .u8 0, .int .u8 0, .int .u8 0, .int .u8 0, .int .u8 0, .int .u8 0, .int .u8 0, .int .u8 0, .int .u8 0, .int .u8 0, .int .u8 0, .int .u8 0, .int .u8 0, .int .u8 0, .int .u8 0, .int .u8 0, .int .u8 0, .int .u8 0, .int .u8 0, .int .u8 0, .int .u8 0, .int .u8 0, .int .u8 0, .int .u8 0, .int .u8 0, .int .u8 0, .int .u8 0, .int .u8 0, .int .u8 0, .int .u8 0, .int .u8 0, .int .u8 0, .int .u8 0, .int .u8 0, .int .u8 0, .int .u8 0, .int .u8 0, .int .u8 0, .int .u8 0, .int .u8 0, .int .u8 0, .int .u8 0, .int .u8 0, .int .u8 0, .int .u8 0, .int .u8 0, .int .u8 0, .int .u8 0, .int .u8 0, .int .u8 0, .int .u8 0, .int .u8 0, .int .u8 0, .int .u8 0, .int .u64 0] := by intro parts; kernel_rfl
theorem zero_33 : (Tryd.prog.info? 33).map (·.zero) = some (some (Value.agg #[Value.int .u8 0, Value.int .u8 0, Value.int .u8 0, Value.int .u8 0, Value.int .u8 0, Value.int .u8 0, Value.int .u8 0, Value.int .u8 0, Value.int .u8 0, Value.int .u8 0, Value.int .u8 0, Value.int .u8 0, Value.int .u8 0, Value.int .u8 0, Value.int .u8 0, Value.int .u8 0, Value.int .u8 0, Value.int .u8 0, Value.int .u8 0, Value.int .u8 0, Value.int .u8 0, Value.int .u8 0, Value.int .u8 0, Value.int .u8 0, Value.int .u8 0, Value.int .u8 0, Value.int .u8 0, Value.int .u8 0, Value.int .u8 0, Value.int .u8 0, Value.int .u8 0, Value.int .u8 0])) := by kernel_rfl
theorem body_60 : Body Tryd.prog 60 := Body.mk Tryd.func60 rfl (by decide)
theorem body_54 : Body Tryd.prog 54 := Body.mk Tryd.func54 rfl (by decide)
theorem zero_90 : (Tryd.prog.info? 90).map (·.zero) = some (some (Value.agg #[Value.int .u8 0, Value.int .u8 0, Value.int .u8 0, Value.int .u8 0, Value.int .u8 0, Value.int .u8 0, Value.int .u8 0, Value.int .u8 0])) := by kernel_rfl
theorem agg_33 : Agg Tryd.prog 33 32 := Agg.mk Tryd.underlying33 rfl (by kernel_rfl)
theorem sz_33 : (Tryd.prog.info? 33).map (·.size) = some 32 := by kernel_rfl
theorem bld_93 : Bld Tryd.prog 93 (fun i => some (i * 1, 1)) [.int .u32 0, .int .u32 0, .int .u32 0, .int .u32 0, .int .u32 0, .int .u32 0, .int .u32 0, .int .u32 0, .int .u32 0, .int .u32 0, .int .u32 0, .int .u32 0, .int .u32 0, .int .u32 0, .int .u32 0, .int .u32 0, .int .u32 0, .int .u32 0, .int .u32 0, .int .u32 0, .int .u32 0, .int .u32 0, .int .u32 0, .int .u32 0, .int .u32 0, .int .u32 0, .int .u32 0, .int .u32 0, .int .u32 0, .int .u32 0, .int .u32 0, .int .u32 0, .int .u32 0, .int .u32 0, .int .u32 0, .int .u32 0, .int .u32 0, .int .u32 0, .int .u32 0, .int .u32 0, .int .u32 0, .int .u32 0, .int .u32 0, .int .u32 0, .int .u32 0, .int .u32 0, .int .u32 0, .int .u32 0, .int .u32 0, .int .u32 0, .int .u32 0, .int .u32 0, .int .u32 0, .int .u32 0, .int .u32 0, .int .u32 0, .int .u32 0, .int .u32 0, .int .u32 0, .int .u32 0, .int .u32 0, .int .u32 0, .int .u32 0, .int .u32 0] := by intro parts; kernel_rfl
theorem sz_93 : (Tryd.prog.info? 93).map (·.size) = some 64 := by kernel_rfl
theorem body_66 : Body Tryd.prog 66 := Body.mk Tryd.func66 rfl (by decide)
theorem body_62 : Body Tryd.prog 62 := Body.mk Tryd.func62 rfl (by decide)
theorem bld_33 : Bld Tryd.prog 33 (fun i => some (i * 1, 1)) [.int .u8 0, .int .u8 0, .int .u8 0, .int .u8 0, .int .u8 0, .int .u8 0, .int .u8 0, .int .u8 0, .int .u8 0, .int .u8 0, .int .u8 0, .int .u8 0, .int .u8 0, .int .u8 0, .int .u8 0, .int .u8 0, .int .u8 0, .int .u8 0, .int .u8 0, .int .u8 0, .int .u8 0, .int .u8 0, .int .u8 0, .int .u8 0, .int .u8 0, .int .u8 0, .int .u8 0, .int .u8 0, .int .u8 0, .int .u8 0, .int .u8 0, .int .u8 0] := by intro parts; kernel_rfl
theorem body_11 : Body Tryd.prog 11 := Body.mk Tryd.func11 rfl (by decide)
theorem body_50 : Body Tryd.prog 50 := Body.mk Tryd.func50 rfl (by decide)
theorem body_19 : Body Tryd.prog 19 := Body.mk Tryd.func19 rfl (by decide)
theorem body_49 : Body Tryd.prog 49 := Body.mk Tryd.func49 rfl (by decide)
theorem body_18 : Body Tryd.prog 18 := Body.mk Tryd.func18 rfl (by decide)
theorem body_41 : Body Tryd.prog 41 := Body.mk Tryd.func41 rfl (by decide)
theorem fa_41_1 : FA Tryd.prog 41 1 1 := FA.mk (m := 0) Tryd.underlying41 rfl rfl (by kernel_rfl)
theorem one_39 : One Tryd.prog 39 := One.mk Tryd.underlying39 rfl
theorem zf_4 : (Tryd.prog.info? 4).bind (·.zero) = some (Value.bool false) := by kernel_rfl
theorem fa_41_0 : FA Tryd.prog 41 0 0 := FA.mk (m := 0) Tryd.underlying41 rfl rfl (by kernel_rfl)
theorem one_23 : One Tryd.prog 23 := One.mk Tryd.underlying23 rfl
theorem body_39 : Body Tryd.prog 39 := Body.mk Tryd.func39 rfl (by decide)
theorem body_37 : Body Tryd.prog 37 := Body.mk Tryd.func37 rfl (by decide)
theorem body_31 : Body Tryd.prog 31 := Body.mk Tryd.func31 rfl (by decide)
theorem body_17 : Body Tryd.prog 17 := Body.mk Tryd.func17 rfl (by decide)
theorem sz_23 : (Tryd.prog.info? 23).map (·.size) = some 1 := by kernel_rfl
theorem sz_39 : (Tryd.prog.info? 39).map (·.size) = some 1 := by kernel_rfl
theorem body_40 : Body Tryd.prog 40 := Body.mk Tryd.func40 rfl (by decide)
theorem body_20 : Body Tryd.prog 20 := Body.mk Tryd.func20 rfl (by decide)
theorem zero_48 : (Tryd.prog.info? 48).map (·.zero) = some (some (Value.agg #[Value.slice none 0 0])) := by kernel_rfl
theorem body_22 : Body Tryd.prog 22 := Body.mk Tryd.func22 rfl (by decide)
theorem body_23 : Body Tryd.prog 23 := Body.mk Tryd.func23 rfl (by decide)
theorem body_27 : Body Tryd.prog 27 := Body.mk Tryd.func27 rfl (by decide)
theorem body_29 : Body Tryd.prog 29 := Body.mk Tryd.func29 rfl (by decide)
theorem body_30 : Body Tryd.prog 30 := Body.mk Tryd.func30 rfl (by decide)
theorem body_14 : Body Tryd.prog 14 := Body.mk Tryd.func14 rfl (by decide)
theorem body_15 : Body Tryd.prog 15 := Body.mk Tryd.func15 rfl (by decide)
theorem body_16 : Body Tryd.prog 16 := Body.mk Tryd.func16 rfl (by decide)
theorem body_6 : Body Tryd.prog 6 := Body.mk Tryd.func6 rfl (by decide)
theorem body_8 : Body Tryd.prog 8 := Body.mk Tryd.func8 rfl (by decide)
theorem body_12 : Body Tryd.prog 12 := Body.mk Tryd.func12 rfl (by decide)
theorem body_53 : Body Tryd.prog 53 := Body.mk Tryd.func53 rfl (by decide)
theorem body_55 : Body Tryd.prog 55 := Body.mk Tryd.func55 rfl (by decide)
theorem body_56 : Body Tryd.prog 56 := Body.mk Tryd.func56 rfl (by decide)
theorem body_63 : Body Tryd.prog 63 := Body.mk Tryd.func63 rfl (by decide)
theorem body_58 : Body Tryd.prog 58 := Body.mk Tryd.func58 rfl (by decide)
theorem body_57 : Body Tryd.prog 57 := Body.mk Tryd.func57 rfl (by decide)
theorem body_35 : Body Tryd.prog 35 := Body.mk Tryd.func35 rfl (by decide)
theorem body_36 : Body Tryd.prog 36 := Body.mk Tryd.func36 rfl (by decide)
theorem fa_62_2 : FA Tryd.prog 62 2 2 := FA.mk (m := 0) Tryd.underlying62 rfl rfl (by kernel_rfl)
theorem fa_62_0 : FA Tryd.prog 62 0 0 := FA.mk (m := 0) Tryd.underlying62 rfl rfl (by kernel_rfl)
theorem fa_62_1 : FA Tryd.prog 62 1 1 := FA.mk (m := 0) Tryd.underlying62 rfl rfl (by kernel_rfl)
theorem one_3 : One Tryd.prog 3 := One.mk Tryd.underlying3 rfl
theorem body_52 : Body Tryd.prog 52 := Body.mk Tryd.func52 rfl (by decide)
theorem sz_3 : (Tryd.prog.info? 3).map (·.size) = some 1 := by kernel_rfl
theorem body_51 : Body Tryd.prog 51 := Body.mk Tryd.func51 rfl (by decide)
theorem body_32 : Body Tryd.prog 32 := Body.mk Tryd.func32 rfl (by decide)
theorem body_44 : Body Tryd.prog 44 := Body.mk Tryd.func44 rfl (by decide)
theorem body_24 : Body Tryd.prog 24 := Body.mk Tryd.func24 rfl (by decide)
theorem body_26 : Body Tryd.prog 26 := Body.mk Tryd.func26 rfl (by decide)
theorem body_33 : Body Tryd.prog 33 := Body.mk Tryd.func33 rfl (by decide)
theorem body_34 : Body Tryd.prog 34 := Body.mk Tryd.func34 rfl (by decide)
theorem body_4 : Body Tryd.prog 4 := Body.mk Tryd.func4 rfl (by decide)
theorem body_5 : Body Tryd.prog 5 := Body.mk Tryd.func5 rfl (by decide)
theorem body_7 : Body Tryd.prog 7 := Body.mk Tryd.func7 rfl (by decide)
theorem body_9 : Body Tryd.prog 9 := Body.mk Tryd.func9 rfl (by decide)
theorem body_10 : Body Tryd.prog 10 := Body.mk Tryd.func10 rfl (by decide)
theorem body_13 : Body Tryd.prog 13 := Body.mk Tryd.func13 rfl (by decide)
end Go.Proofs.YtffgimlkmfjgmaaDoor
