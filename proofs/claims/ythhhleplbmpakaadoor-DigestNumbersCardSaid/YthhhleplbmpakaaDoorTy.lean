/-
  Facts on the types of the loaded program, one a type: sizes, offsets, zero values, elements.
-/
import Derived.Test.YthhhleplbmpakaaDoorFw13
import Derived.Test.YthhhleplbmpakaaDoorProg
import Derived.KernelRfl
namespace Go.Proofs.YthhhleplbmpakaaDoor
open Go Go.Fw

theorem mixed : Tryd.prog.follows .mixedOrders = true := by kernel_rfl
theorem fd_70_0 : fieldB Tryd.prog 70 0 = some 0 := by kernel_rfl
theorem fd_70_1 : fieldB Tryd.prog 70 1 = some 1 := by kernel_rfl
theorem sz_5 : sizeB Tryd.prog 5 = some 1 := by kernel_rfl
theorem sz_22 : sizeB Tryd.prog 22 = some 1 := by kernel_rfl
theorem sz_25 : sizeB Tryd.prog 25 = some 32 := by kernel_rfl
theorem sz_53 : sizeB Tryd.prog 53 = some 1 := by kernel_rfl
theorem sz_61 : sizeB Tryd.prog 61 = some 8 := by kernel_rfl
theorem sz_68 : sizeB Tryd.prog 68 = some 1 := by kernel_rfl
theorem sz_70 : sizeB Tryd.prog 70 = some 2 := by kernel_rfl
theorem sz_84 : sizeB Tryd.prog 84 = some 64 := by kernel_rfl
theorem by_5 : bytesB Tryd.prog 5 = some 1 := by kernel_rfl
theorem by_22 : bytesB Tryd.prog 22 = some 24 := by kernel_rfl
theorem by_25 : bytesB Tryd.prog 25 = some 32 := by kernel_rfl
theorem by_53 : bytesB Tryd.prog 53 = some 4 := by kernel_rfl
theorem by_61 : bytesB Tryd.prog 61 = some 32 := by kernel_rfl
theorem by_68 : bytesB Tryd.prog 68 = some 8 := by kernel_rfl
theorem by_70 : bytesB Tryd.prog 70 = some 32 := by kernel_rfl
theorem by_84 : bytesB Tryd.prog 84 = some 256 := by kernel_rfl
theorem el_22 : tdSlice Tryd.prog 22 = some 5 := by kernel_rfl
theorem el_63 : tdSlice Tryd.prog 63 = some 53 := by kernel_rfl
theorem el_82 : tdSlice Tryd.prog 82 = some 22 := by kernel_rfl
theorem ar_25 : tdArray Tryd.prog 25 = some (32, 5) := by kernel_rfl
theorem ar_61 : tdArray Tryd.prog 61 = some (8, 53) := by kernel_rfl
theorem ar_84 : tdArray Tryd.prog 84 = some (64, 53) := by kernel_rfl
theorem zb_5 : zeroB Tryd.prog 5 = some (.int .u8 0) := by kernel_rfl
theorem zb_22 : zeroB Tryd.prog 22 = some (.slice none 0 0) := by kernel_rfl
theorem zb_25 : zeroB Tryd.prog 25 = some (.agg [.int .u8 0, .int .u8 0, .int .u8 0, .int .u8 0, .int .u8 0, .int .u8 0, .int .u8 0, .int .u8 0, .int .u8 0, .int .u8 0, .int .u8 0, .int .u8 0, .int .u8 0, .int .u8 0, .int .u8 0, .int .u8 0, .int .u8 0, .int .u8 0, .int .u8 0, .int .u8 0, .int .u8 0, .int .u8 0, .int .u8 0, .int .u8 0, .int .u8 0, .int .u8 0, .int .u8 0, .int .u8 0, .int .u8 0, .int .u8 0, .int .u8 0, .int .u8 0].toArray) := by kernel_rfl
theorem zb_53 : zeroB Tryd.prog 53 = some (.int .u32 0) := by kernel_rfl
theorem zb_61 : zeroB Tryd.prog 61 = some (.agg [.int .u32 0, .int .u32 0, .int .u32 0, .int .u32 0, .int .u32 0, .int .u32 0, .int .u32 0, .int .u32 0].toArray) := by kernel_rfl
theorem zb_70 : zeroB Tryd.prog 70 = some (.agg [.pointer none, .slice none 0 0].toArray) := by kernel_rfl
theorem zb_84 : zeroB Tryd.prog 84 = some (.agg [.int .u32 0, .int .u32 0, .int .u32 0, .int .u32 0, .int .u32 0, .int .u32 0, .int .u32 0, .int .u32 0, .int .u32 0, .int .u32 0, .int .u32 0, .int .u32 0, .int .u32 0, .int .u32 0, .int .u32 0, .int .u32 0, .int .u32 0, .int .u32 0, .int .u32 0, .int .u32 0, .int .u32 0, .int .u32 0, .int .u32 0, .int .u32 0, .int .u32 0, .int .u32 0, .int .u32 0, .int .u32 0, .int .u32 0, .int .u32 0, .int .u32 0, .int .u32 0, .int .u32 0, .int .u32 0, .int .u32 0, .int .u32 0, .int .u32 0, .int .u32 0, .int .u32 0, .int .u32 0, .int .u32 0, .int .u32 0, .int .u32 0, .int .u32 0, .int .u32 0, .int .u32 0, .int .u32 0, .int .u32 0, .int .u32 0, .int .u32 0, .int .u32 0, .int .u32 0, .int .u32 0, .int .u32 0, .int .u32 0, .int .u32 0, .int .u32 0, .int .u32 0, .int .u32 0, .int .u32 0, .int .u32 0, .int .u32 0, .int .u32 0, .int .u32 0].toArray) := by kernel_rfl
theorem fs_70 : fieldsB Tryd.prog 70 = some [(0, 1), (1, 1)] := by kernel_rfl
theorem ti_3 : tdInt Tryd.prog 3 = some .i64 := by kernel_rfl
theorem ti_5 : tdInt Tryd.prog 5 = some .u8 := by kernel_rfl
theorem ti_32 : tdInt Tryd.prog 32 = some .u16 := by kernel_rfl
theorem ti_53 : tdInt Tryd.prog 53 = some .u32 := by kernel_rfl
theorem ti_54 : tdInt Tryd.prog 54 = some .u64 := by kernel_rfl
theorem ti_55 : tdInt Tryd.prog 55 = some .u64 := by kernel_rfl
theorem ia_25 : intArray Tryd.prog 25 32 = true := by kernel_rfl
theorem zk_25 : zeroB Tryd.prog 25 = some (.agg (flat (eK .u8) (List.replicate 32 0)).toArray) := by kernel_rfl
theorem ia_61 : intArray Tryd.prog 61 8 = true := by kernel_rfl
theorem zk_61 : zeroB Tryd.prog 61 = some (.agg (flat (eK .u32) (List.replicate 8 0)).toArray) := by kernel_rfl
theorem ia_84 : intArray Tryd.prog 84 64 = true := by kernel_rfl
theorem zk_84 : zeroB Tryd.prog 84 = some (.agg (flat (eK .u32) (List.replicate 64 0)).toArray) := by kernel_rfl
theorem ub_4 : Tryd.prog.underlying 4 = some .bool := by kernel_rfl
theorem us_9 : Tryd.prog.underlying 9 = some .string := by kernel_rfl
theorem gf_11 : goFunc Tryd.prog 11 = true := by kernel_rfl
theorem gf_12 : goFunc Tryd.prog 12 = true := by kernel_rfl
theorem gf_13 : goFunc Tryd.prog 13 = true := by kernel_rfl
theorem gf_14 : goFunc Tryd.prog 14 = true := by kernel_rfl
theorem gf_15 : goFunc Tryd.prog 15 = true := by kernel_rfl
theorem gf_16 : goFunc Tryd.prog 16 = true := by kernel_rfl
theorem gf_17 : goFunc Tryd.prog 17 = true := by kernel_rfl
theorem gf_18 : goFunc Tryd.prog 18 = true := by kernel_rfl
theorem gf_19 : goFunc Tryd.prog 19 = true := by kernel_rfl
theorem gf_20 : goFunc Tryd.prog 20 = true := by kernel_rfl
theorem gf_21 : goFunc Tryd.prog 21 = true := by kernel_rfl
theorem gf_22 : goFunc Tryd.prog 22 = true := by kernel_rfl
theorem gf_23 : goFunc Tryd.prog 23 = true := by kernel_rfl
theorem gf_24 : goFunc Tryd.prog 24 = true := by kernel_rfl
theorem gf_25 : goFunc Tryd.prog 25 = true := by kernel_rfl
theorem gf_26 : goFunc Tryd.prog 26 = true := by kernel_rfl
theorem gf_27 : goFunc Tryd.prog 27 = true := by kernel_rfl
theorem gf_28 : goFunc Tryd.prog 28 = true := by kernel_rfl
theorem gf_29 : goFunc Tryd.prog 29 = true := by kernel_rfl
theorem gf_30 : goFunc Tryd.prog 30 = true := by kernel_rfl
theorem gf_31 : goFunc Tryd.prog 31 = true := by kernel_rfl
theorem gf_32 : goFunc Tryd.prog 32 = true := by kernel_rfl
theorem gf_33 : goFunc Tryd.prog 33 = true := by kernel_rfl
theorem gf_34 : goFunc Tryd.prog 34 = true := by kernel_rfl
theorem gf_35 : goFunc Tryd.prog 35 = true := by kernel_rfl
theorem gf_36 : goFunc Tryd.prog 36 = true := by kernel_rfl
theorem gf_37 : goFunc Tryd.prog 37 = true := by kernel_rfl
theorem gf_38 : goFunc Tryd.prog 38 = true := by kernel_rfl
theorem gf_39 : goFunc Tryd.prog 39 = true := by kernel_rfl
theorem gf_40 : goFunc Tryd.prog 40 = true := by kernel_rfl
theorem gf_41 : goFunc Tryd.prog 41 = true := by kernel_rfl
theorem gf_42 : goFunc Tryd.prog 42 = true := by kernel_rfl
theorem gf_43 : goFunc Tryd.prog 43 = true := by kernel_rfl
theorem gf_44 : goFunc Tryd.prog 44 = true := by kernel_rfl
theorem gf_45 : goFunc Tryd.prog 45 = true := by kernel_rfl
theorem gf_46 : goFunc Tryd.prog 46 = true := by kernel_rfl
theorem gf_47 : goFunc Tryd.prog 47 = true := by kernel_rfl
theorem gf_48 : goFunc Tryd.prog 48 = true := by kernel_rfl
theorem gf_49 : goFunc Tryd.prog 49 = true := by kernel_rfl
theorem gf_50 : goFunc Tryd.prog 50 = true := by kernel_rfl
theorem gf_51 : goFunc Tryd.prog 51 = true := by kernel_rfl
theorem gf_52 : goFunc Tryd.prog 52 = true := by kernel_rfl
theorem gf_53 : goFunc Tryd.prog 53 = true := by kernel_rfl
theorem gf_56 : goFunc Tryd.prog 56 = true := by kernel_rfl
theorem gf_57 : goFunc Tryd.prog 57 = true := by kernel_rfl
theorem gf_58 : goFunc Tryd.prog 58 = true := by kernel_rfl
theorem gf_59 : goFunc Tryd.prog 59 = true := by kernel_rfl
theorem gf_62 : goFunc Tryd.prog 62 = true := by kernel_rfl
end Go.Proofs.YthhhleplbmpakaaDoor

