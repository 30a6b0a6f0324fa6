/-
  Facts on the types of the loaded program, one a type: sizes, offsets, zero values, elements.
-/
import Derived.Test.YtckohecddaacnaaDoorFw13
import Derived.Test.YtckohecddaacnaaDoorProg
import Derived.KernelRfl
namespace Go.Proofs.YtckohecddaacnaaDoor
open Go Go.Fw

theorem mixed : Tryd.prog.follows .mixedOrders = true := by kernel_rfl
theorem fd_32_0 : fieldB Tryd.prog 32 0 = some 0 := by kernel_rfl
theorem fd_32_1 : fieldB Tryd.prog 32 1 = some 1 := by kernel_rfl
theorem sz_3 : sizeB Tryd.prog 3 = some 1 := by kernel_rfl
theorem sz_5 : sizeB Tryd.prog 5 = some 1 := by kernel_rfl
theorem sz_22 : sizeB Tryd.prog 22 = some 1 := by kernel_rfl
theorem sz_26 : sizeB Tryd.prog 26 = some 32 := by kernel_rfl
theorem sz_32 : sizeB Tryd.prog 32 = some 2 := by kernel_rfl
theorem sz_46 : sizeB Tryd.prog 46 = some 1 := by kernel_rfl
theorem sz_71 : sizeB Tryd.prog 71 = some 1 := by kernel_rfl
theorem sz_72 : sizeB Tryd.prog 72 = some 8 := by kernel_rfl
theorem sz_79 : sizeB Tryd.prog 79 = some 64 := by kernel_rfl
theorem by_3 : bytesB Tryd.prog 3 = some 8 := by kernel_rfl
theorem by_5 : bytesB Tryd.prog 5 = some 1 := by kernel_rfl
theorem by_22 : bytesB Tryd.prog 22 = some 24 := by kernel_rfl
theorem by_26 : bytesB Tryd.prog 26 = some 32 := by kernel_rfl
theorem by_32 : bytesB Tryd.prog 32 = some 32 := by kernel_rfl
theorem by_46 : bytesB Tryd.prog 46 = some 24 := by kernel_rfl
theorem by_71 : bytesB Tryd.prog 71 = some 4 := by kernel_rfl
theorem by_72 : bytesB Tryd.prog 72 = some 32 := by kernel_rfl
theorem by_79 : bytesB Tryd.prog 79 = some 256 := by kernel_rfl
theorem el_22 : tdSlice Tryd.prog 22 = some 26 := by kernel_rfl
theorem el_46 : tdSlice Tryd.prog 46 = some 5 := by kernel_rfl
theorem el_53 : tdSlice Tryd.prog 53 = some 22 := by kernel_rfl
theorem el_67 : tdSlice Tryd.prog 67 = some 46 := by kernel_rfl
theorem el_74 : tdSlice Tryd.prog 74 = some 71 := by kernel_rfl
theorem ar_26 : tdArray Tryd.prog 26 = some (32, 5) := by kernel_rfl
theorem ar_72 : tdArray Tryd.prog 72 = some (8, 71) := by kernel_rfl
theorem ar_79 : tdArray Tryd.prog 79 = some (64, 71) := by kernel_rfl
theorem zb_5 : zeroB Tryd.prog 5 = some (.int .u8 0) := by kernel_rfl
theorem zb_22 : zeroB Tryd.prog 22 = some (.slice none 0 0) := by kernel_rfl
theorem zb_26 : zeroB Tryd.prog 26 = some (.agg [.int .u8 0, .int .u8 0, .int .u8 0, .int .u8 0, .int .u8 0, .int .u8 0, .int .u8 0, .int .u8 0, .int .u8 0, .int .u8 0, .int .u8 0, .int .u8 0, .int .u8 0, .int .u8 0, .int .u8 0, .int .u8 0, .int .u8 0, .int .u8 0, .int .u8 0, .int .u8 0, .int .u8 0, .int .u8 0, .int .u8 0, .int .u8 0, .int .u8 0, .int .u8 0, .int .u8 0, .int .u8 0, .int .u8 0, .int .u8 0, .int .u8 0, .int .u8 0].toArray) := by kernel_rfl
theorem zb_32 : zeroB Tryd.prog 32 = some (.agg [.int .i64 0, .slice none 0 0].toArray) := by kernel_rfl
theorem zb_46 : zeroB Tryd.prog 46 = some (.slice none 0 0) := by kernel_rfl
theorem zb_71 : zeroB Tryd.prog 71 = some (.int .u32 0) := by kernel_rfl
theorem zb_72 : zeroB Tryd.prog 72 = some (.agg [.int .u32 0, .int .u32 0, .int .u32 0, .int .u32 0, .int .u32 0, .int .u32 0, .int .u32 0, .int .u32 0].toArray) := by kernel_rfl
theorem zb_79 : zeroB Tryd.prog 79 = some (.agg [.int .u32 0, .int .u32 0, .int .u32 0, .int .u32 0, .int .u32 0, .int .u32 0, .int .u32 0, .int .u32 0, .int .u32 0, .int .u32 0, .int .u32 0, .int .u32 0, .int .u32 0, .int .u32 0, .int .u32 0, .int .u32 0, .int .u32 0, .int .u32 0, .int .u32 0, .int .u32 0, .int .u32 0, .int .u32 0, .int .u32 0, .int .u32 0, .int .u32 0, .int .u32 0, .int .u32 0, .int .u32 0, .int .u32 0, .int .u32 0, .int .u32 0, .int .u32 0, .int .u32 0, .int .u32 0, .int .u32 0, .int .u32 0, .int .u32 0, .int .u32 0, .int .u32 0, .int .u32 0, .int .u32 0, .int .u32 0, .int .u32 0, .int .u32 0, .int .u32 0, .int .u32 0, .int .u32 0, .int .u32 0, .int .u32 0, .int .u32 0, .int .u32 0, .int .u32 0, .int .u32 0, .int .u32 0, .int .u32 0, .int .u32 0, .int .u32 0, .int .u32 0, .int .u32 0, .int .u32 0, .int .u32 0, .int .u32 0, .int .u32 0, .int .u32 0].toArray) := by kernel_rfl
theorem fs_32 : fieldsB Tryd.prog 32 = some [(0, 1), (1, 1)] := by kernel_rfl
theorem ti_3 : tdInt Tryd.prog 3 = some .i64 := by kernel_rfl
theorem ti_5 : tdInt Tryd.prog 5 = some .u8 := by kernel_rfl
theorem ti_70 : tdInt Tryd.prog 70 = some .u64 := by kernel_rfl
theorem ti_71 : tdInt Tryd.prog 71 = some .u32 := by kernel_rfl
theorem ti_82 : tdInt Tryd.prog 82 = some .u64 := by kernel_rfl
theorem ia_26 : intArray Tryd.prog 26 32 = true := by kernel_rfl
theorem zk_26 : zeroB Tryd.prog 26 = some (.agg (flat (eK .u8) (List.replicate 32 0)).toArray) := by kernel_rfl
theorem ia_72 : intArray Tryd.prog 72 8 = true := by kernel_rfl
theorem zk_72 : zeroB Tryd.prog 72 = some (.agg (flat (eK .u32) (List.replicate 8 0)).toArray) := by kernel_rfl
theorem ia_79 : intArray Tryd.prog 79 64 = true := by kernel_rfl
theorem zk_79 : zeroB Tryd.prog 79 = some (.agg (flat (eK .u32) (List.replicate 64 0)).toArray) := by kernel_rfl
theorem ub_4 : Tryd.prog.underlying 4 = some .bool := by kernel_rfl
theorem us_9 : Tryd.prog.underlying 9 = some .string := by kernel_rfl
theorem gf_8 : goFunc Tryd.prog 8 = true := by kernel_rfl
theorem gf_9 : goFunc Tryd.prog 9 = true := by kernel_rfl
theorem gf_10 : goFunc Tryd.prog 10 = true := by kernel_rfl
theorem gf_11 : goFunc Tryd.prog 11 = true := by kernel_rfl
theorem gf_12 : goFunc Tryd.prog 12 = true := by kernel_rfl
theorem gf_13 : goFunc Tryd.prog 13 = true := by kernel_rfl
theorem gf_14 : goFunc Tryd.prog 14 = true := by kernel_rfl
theorem gf_15 : goFunc Tryd.prog 15 = true := by kernel_rfl
theorem gf_16 : goFunc Tryd.prog 16 = true := by kernel_rfl
theorem gf_17 : goFunc Tryd.prog 17 = true := by kernel_rfl
theorem gf_18 : goFunc Tryd.prog 18 = true := by kernel_rfl
theorem gf_19 : goFunc Tryd.prog 19 = true := by kernel_rfl
theorem gf_20 : goFunc Tryd.prog 20 = true := by kernel_rfl
theorem gf_21 : goFunc Tryd.prog 21 = true := by kernel_rfl
theorem gf_22 : goFunc Tryd.prog 22 = true := by kernel_rfl
theorem gf_23 : goFunc Tryd.prog 23 = true := by kernel_rfl
theorem gf_24 : goFunc Tryd.prog 24 = true := by kernel_rfl
theorem gf_25 : goFunc Tryd.prog 25 = true := by kernel_rfl
theorem gf_27 : goFunc Tryd.prog 27 = true := by kernel_rfl
theorem gf_28 : goFunc Tryd.prog 28 = true := by kernel_rfl
theorem gf_29 : goFunc Tryd.prog 29 = true := by kernel_rfl
theorem gf_30 : goFunc Tryd.prog 30 = true := by kernel_rfl
theorem gf_31 : goFunc Tryd.prog 31 = true := by kernel_rfl
theorem gf_32 : goFunc Tryd.prog 32 = true := by kernel_rfl
theorem gf_33 : goFunc Tryd.prog 33 = true := by kernel_rfl
theorem gf_34 : goFunc Tryd.prog 34 = true := by kernel_rfl
theorem gf_35 : goFunc Tryd.prog 35 = true := by kernel_rfl
theorem gf_36 : goFunc Tryd.prog 36 = true := by kernel_rfl
theorem gf_37 : goFunc Tryd.prog 37 = true := by kernel_rfl
theorem gf_38 : goFunc Tryd.prog 38 = true := by kernel_rfl
theorem gf_39 : goFunc Tryd.prog 39 = true := by kernel_rfl
theorem gf_40 : goFunc Tryd.prog 40 = true := by kernel_rfl
theorem gf_41 : goFunc Tryd.prog 41 = true := by kernel_rfl
theorem gf_42 : goFunc Tryd.prog 42 = true := by kernel_rfl
theorem gf_43 : goFunc Tryd.prog 43 = true := by kernel_rfl
theorem gf_44 : goFunc Tryd.prog 44 = true := by kernel_rfl
theorem gf_45 : goFunc Tryd.prog 45 = true := by kernel_rfl
theorem gf_47 : goFunc Tryd.prog 47 = true := by kernel_rfl
theorem gf_48 : goFunc Tryd.prog 48 = true := by kernel_rfl
theorem gf_49 : goFunc Tryd.prog 49 = true := by kernel_rfl
theorem gf_50 : goFunc Tryd.prog 50 = true := by kernel_rfl
end Go.Proofs.YtckohecddaacnaaDoor

