/-
  Facts on the types of the loaded program, one a type: sizes, offsets, zero values, elements.
-/
import Derived.Test.YtkbbbflojebfgaaDoorFw13
import Derived.Test.YtkbbbflojebfgaaDoorProg
import Derived.KernelRfl
namespace Go.Proofs.YtkbbbflojebfgaaDoor
open Go Go.Fw

theorem mixed : Tryd.prog.follows .mixedOrders = true := by kernel_rfl
theorem fd_25_0 : fieldB Tryd.prog 25 0 = some 0 := by kernel_rfl
theorem fd_25_1 : fieldB Tryd.prog 25 1 = some 32 := by kernel_rfl
theorem fd_41_0 : fieldB Tryd.prog 41 0 = some 0 := by kernel_rfl
theorem fd_41_1 : fieldB Tryd.prog 41 1 = some 1 := by kernel_rfl
theorem fd_41_2 : fieldB Tryd.prog 41 2 = some 2 := by kernel_rfl
theorem fd_41_3 : fieldB Tryd.prog 41 3 = some 3 := by kernel_rfl
theorem sz_3 : sizeB Tryd.prog 3 = some 1 := by kernel_rfl
theorem sz_5 : sizeB Tryd.prog 5 = some 1 := by kernel_rfl
theorem sz_23 : sizeB Tryd.prog 23 = some 32 := by kernel_rfl
theorem sz_25 : sizeB Tryd.prog 25 = some 33 := by kernel_rfl
theorem sz_26 : sizeB Tryd.prog 26 = some 1 := by kernel_rfl
theorem sz_35 : sizeB Tryd.prog 35 = some 1 := by kernel_rfl
theorem sz_38 : sizeB Tryd.prog 38 = some 1 := by kernel_rfl
theorem sz_39 : sizeB Tryd.prog 39 = some 1 := by kernel_rfl
theorem sz_41 : sizeB Tryd.prog 41 = some 4 := by kernel_rfl
theorem sz_79 : sizeB Tryd.prog 79 = some 8 := by kernel_rfl
theorem sz_88 : sizeB Tryd.prog 88 = some 64 := by kernel_rfl
theorem by_3 : bytesB Tryd.prog 3 = some 8 := by kernel_rfl
theorem by_5 : bytesB Tryd.prog 5 = some 1 := by kernel_rfl
theorem by_23 : bytesB Tryd.prog 23 = some 32 := by kernel_rfl
theorem by_25 : bytesB Tryd.prog 25 = some 40 := by kernel_rfl
theorem by_26 : bytesB Tryd.prog 26 = some 4 := by kernel_rfl
theorem by_35 : bytesB Tryd.prog 35 = some 24 := by kernel_rfl
theorem by_38 : bytesB Tryd.prog 38 = some 24 := by kernel_rfl
theorem by_39 : bytesB Tryd.prog 39 = some 24 := by kernel_rfl
theorem by_41 : bytesB Tryd.prog 41 = some 64 := by kernel_rfl
theorem by_79 : bytesB Tryd.prog 79 = some 32 := by kernel_rfl
theorem by_88 : bytesB Tryd.prog 88 = some 256 := by kernel_rfl
theorem el_32 : tdSlice Tryd.prog 32 = some 35 := by kernel_rfl
theorem el_35 : tdSlice Tryd.prog 35 = some 3 := by kernel_rfl
theorem el_38 : tdSlice Tryd.prog 38 = some 5 := by kernel_rfl
theorem el_39 : tdSlice Tryd.prog 39 = some 41 := by kernel_rfl
theorem el_81 : tdSlice Tryd.prog 81 = some 26 := by kernel_rfl
theorem ar_23 : tdArray Tryd.prog 23 = some (32, 5) := by kernel_rfl
theorem ar_79 : tdArray Tryd.prog 79 = some (8, 26) := by kernel_rfl
theorem ar_88 : tdArray Tryd.prog 88 = some (64, 26) := by kernel_rfl
theorem zb_3 : zeroB Tryd.prog 3 = some (.int .i64 0) := by kernel_rfl
theorem zb_5 : zeroB Tryd.prog 5 = some (.int .u8 0) := by kernel_rfl
theorem zb_23 : zeroB Tryd.prog 23 = some (.agg [.int .u8 0, .int .u8 0, .int .u8 0, .int .u8 0, .int .u8 0, .int .u8 0, .int .u8 0, .int .u8 0, .int .u8 0, .int .u8 0, .int .u8 0, .int .u8 0, .int .u8 0, .int .u8 0, .int .u8 0, .int .u8 0, .int .u8 0, .int .u8 0, .int .u8 0, .int .u8 0, .int .u8 0, .int .u8 0, .int .u8 0, .int .u8 0, .int .u8 0, .int .u8 0, .int .u8 0, .int .u8 0, .int .u8 0, .int .u8 0, .int .u8 0, .int .u8 0].toArray) := by kernel_rfl
theorem zb_25 : zeroB Tryd.prog 25 = some (.agg [.int .u8 0, .int .u8 0, .int .u8 0, .int .u8 0, .int .u8 0, .int .u8 0, .int .u8 0, .int .u8 0, .int .u8 0, .int .u8 0, .int .u8 0, .int .u8 0, .int .u8 0, .int .u8 0, .int .u8 0, .int .u8 0, .int .u8 0, .int .u8 0, .int .u8 0, .int .u8 0, .int .u8 0, .int .u8 0, .int .u8 0, .int .u8 0, .int .u8 0, .int .u8 0, .int .u8 0, .int .u8 0, .int .u8 0, .int .u8 0, .int .u8 0, .int .u8 0, .int .i64 0].toArray) := by kernel_rfl
theorem zb_26 : zeroB Tryd.prog 26 = some (.int .u32 0) := by kernel_rfl
theorem zb_35 : zeroB Tryd.prog 35 = some (.slice none 0 0) := by kernel_rfl
theorem zb_41 : zeroB Tryd.prog 41 = some (.agg [.int .i64 0, .int .i64 0, .slice none 0 0, .slice none 0 0].toArray) := by kernel_rfl
theorem zb_79 : zeroB Tryd.prog 79 = some (.agg [.int .u32 0, .int .u32 0, .int .u32 0, .int .u32 0, .int .u32 0, .int .u32 0, .int .u32 0, .int .u32 0].toArray) := by kernel_rfl
theorem zb_88 : zeroB Tryd.prog 88 = some (.agg [.int .u32 0, .int .u32 0, .int .u32 0, .int .u32 0, .int .u32 0, .int .u32 0, .int .u32 0, .int .u32 0, .int .u32 0, .int .u32 0, .int .u32 0, .int .u32 0, .int .u32 0, .int .u32 0, .int .u32 0, .int .u32 0, .int .u32 0, .int .u32 0, .int .u32 0, .int .u32 0, .int .u32 0, .int .u32 0, .int .u32 0, .int .u32 0, .int .u32 0, .int .u32 0, .int .u32 0, .int .u32 0, .int .u32 0, .int .u32 0, .int .u32 0, .int .u32 0, .int .u32 0, .int .u32 0, .int .u32 0, .int .u32 0, .int .u32 0, .int .u32 0, .int .u32 0, .int .u32 0, .int .u32 0, .int .u32 0, .int .u32 0, .int .u32 0, .int .u32 0, .int .u32 0, .int .u32 0, .int .u32 0, .int .u32 0, .int .u32 0, .int .u32 0, .int .u32 0, .int .u32 0, .int .u32 0, .int .u32 0, .int .u32 0, .int .u32 0, .int .u32 0, .int .u32 0, .int .u32 0, .int .u32 0, .int .u32 0, .int .u32 0, .int .u32 0].toArray) := by kernel_rfl
theorem fs_25 : fieldsB Tryd.prog 25 = some [(0, 32), (32, 1)] := by kernel_rfl
theorem fs_41 : fieldsB Tryd.prog 41 = some [(0, 1), (1, 1), (2, 1), (3, 1)] := by kernel_rfl
theorem ti_3 : tdInt Tryd.prog 3 = some .i64 := by kernel_rfl
theorem ti_5 : tdInt Tryd.prog 5 = some .u8 := by kernel_rfl
theorem ti_26 : tdInt Tryd.prog 26 = some .u32 := by kernel_rfl
theorem ti_73 : tdInt Tryd.prog 73 = some .u64 := by kernel_rfl
theorem ti_91 : tdInt Tryd.prog 91 = some .u64 := by kernel_rfl
theorem ia_23 : intArray Tryd.prog 23 32 = true := by kernel_rfl
theorem zk_23 : zeroB Tryd.prog 23 = some (.agg (flat (eK .u8) (List.replicate 32 0)).toArray) := by kernel_rfl
theorem ia_79 : intArray Tryd.prog 79 8 = true := by kernel_rfl
theorem zk_79 : zeroB Tryd.prog 79 = some (.agg (flat (eK .u32) (List.replicate 8 0)).toArray) := by kernel_rfl
theorem ia_88 : intArray Tryd.prog 88 64 = true := by kernel_rfl
theorem zk_88 : zeroB Tryd.prog 88 = some (.agg (flat (eK .u32) (List.replicate 64 0)).toArray) := by kernel_rfl
theorem us_9 : Tryd.prog.underlying 9 = some .string := by kernel_rfl
theorem gf_6 : goFunc Tryd.prog 6 = true := by kernel_rfl
theorem gf_7 : goFunc Tryd.prog 7 = true := by kernel_rfl
theorem gf_8 : goFunc Tryd.prog 8 = true := by kernel_rfl
theorem gf_9 : goFunc Tryd.prog 9 = true := by kernel_rfl
theorem gf_10 : goFunc Tryd.prog 10 = true := by kernel_rfl
theorem gf_11 : goFunc Tryd.prog 11 = true := by kernel_rfl
theorem gf_12 : goFunc Tryd.prog 12 = true := by kernel_rfl
theorem gf_13 : goFunc Tryd.prog 13 = true := by kernel_rfl
theorem gf_14 : goFunc Tryd.prog 14 = true := by kernel_rfl
theorem gf_15 : goFunc Tryd.prog 15 = true := by kernel_rfl
theorem gf_16 : goFunc Tryd.prog 16 = true := by kernel_rfl
theorem gf_17 : goFunc Tryd.prog 17 = true := by kernel_rfl
theorem gf_18 : goFunc Tryd.prog 18 = true := by kernel_rfl
theorem gf_19 : goFunc Tryd.prog 19 = true := by kernel_rfl
theorem gf_20 : goFunc Tryd.prog 20 = true := by kernel_rfl
theorem gf_21 : goFunc Tryd.prog 21 = true := by kernel_rfl
theorem gf_22 : goFunc Tryd.prog 22 = true := by kernel_rfl
theorem gf_23 : goFunc Tryd.prog 23 = true := by kernel_rfl
theorem gf_24 : goFunc Tryd.prog 24 = true := by kernel_rfl
theorem gf_25 : goFunc Tryd.prog 25 = true := by kernel_rfl
theorem gf_26 : goFunc Tryd.prog 26 = true := by kernel_rfl
theorem gf_27 : goFunc Tryd.prog 27 = true := by kernel_rfl
theorem gf_29 : goFunc Tryd.prog 29 = true := by kernel_rfl
theorem gf_30 : goFunc Tryd.prog 30 = true := by kernel_rfl
theorem gf_31 : goFunc Tryd.prog 31 = true := by kernel_rfl
theorem gf_32 : goFunc Tryd.prog 32 = true := by kernel_rfl
theorem gf_33 : goFunc Tryd.prog 33 = true := by kernel_rfl
theorem gf_34 : goFunc Tryd.prog 34 = true := by kernel_rfl
theorem gf_35 : goFunc Tryd.prog 35 = true := by kernel_rfl
theorem gf_36 : goFunc Tryd.prog 36 = true := by kernel_rfl
theorem gf_37 : goFunc Tryd.prog 37 = true := by kernel_rfl
theorem gf_38 : goFunc Tryd.prog 38 = true := by kernel_rfl
theorem gf_39 : goFunc Tryd.prog 39 = true := by kernel_rfl
theorem gf_40 : goFunc Tryd.prog 40 = true := by kernel_rfl
theorem gf_41 : goFunc Tryd.prog 41 = true := by kernel_rfl
theorem gf_42 : goFunc Tryd.prog 42 = true := by kernel_rfl
theorem gf_43 : goFunc Tryd.prog 43 = true := by kernel_rfl
theorem gf_44 : goFunc Tryd.prog 44 = true := by kernel_rfl
theorem gf_45 : goFunc Tryd.prog 45 = true := by kernel_rfl
theorem gf_46 : goFunc Tryd.prog 46 = true := by kernel_rfl
theorem gf_47 : goFunc Tryd.prog 47 = true := by kernel_rfl
theorem gf_48 : goFunc Tryd.prog 48 = true := by kernel_rfl
theorem gf_49 : goFunc Tryd.prog 49 = true := by kernel_rfl
theorem gf_50 : goFunc Tryd.prog 50 = true := by kernel_rfl
theorem gf_51 : goFunc Tryd.prog 51 = true := by kernel_rfl
theorem gf_52 : goFunc Tryd.prog 52 = true := by kernel_rfl
theorem gf_53 : goFunc Tryd.prog 53 = true := by kernel_rfl
theorem gf_54 : goFunc Tryd.prog 54 = true := by kernel_rfl
theorem gf_55 : goFunc Tryd.prog 55 = true := by kernel_rfl
theorem gf_56 : goFunc Tryd.prog 56 = true := by kernel_rfl
theorem gf_58 : goFunc Tryd.prog 58 = true := by kernel_rfl
theorem gf_59 : goFunc Tryd.prog 59 = true := by kernel_rfl
end Go.Proofs.YtkbbbflojebfgaaDoor

