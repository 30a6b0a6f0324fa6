/-
  Facts on the types of the loaded program, one a type: sizes, offsets, zero values, elements.
-/
import Derived.Test.YtjaeblkgjbncmaaDoorFw13
import Derived.Test.YtjaeblkgjbncmaaDoorProg
import Derived.KernelRfl
namespace Go.Proofs.YtjaeblkgjbncmaaDoor
open Go Go.Fw

theorem mixed : Tryd.prog.follows .mixedOrders = true := by kernel_rfl
theorem fd_25_0 : fieldB Tryd.prog 25 0 = some 0 := by kernel_rfl
theorem fd_60_0 : fieldB Tryd.prog 60 0 = some 0 := by kernel_rfl
theorem fd_60_1 : fieldB Tryd.prog 60 1 = some 1 := by kernel_rfl
theorem sz_5 : sizeB Tryd.prog 5 = some 1 := by kernel_rfl
theorem sz_9 : sizeB Tryd.prog 9 = some 1 := by kernel_rfl
theorem sz_23 : sizeB Tryd.prog 23 = some 1 := by kernel_rfl
theorem sz_25 : sizeB Tryd.prog 25 = some 1 := by kernel_rfl
theorem sz_33 : sizeB Tryd.prog 33 = some 1 := by kernel_rfl
theorem sz_41 : sizeB Tryd.prog 41 = some 1 := by kernel_rfl
theorem sz_51 : sizeB Tryd.prog 51 = some 1 := by kernel_rfl
theorem sz_58 : sizeB Tryd.prog 58 = some 1 := by kernel_rfl
theorem sz_60 : sizeB Tryd.prog 60 = some 2 := by kernel_rfl
theorem sz_83 : sizeB Tryd.prog 83 = some 24 := by kernel_rfl
theorem sz_97 : sizeB Tryd.prog 97 = some 65 := by kernel_rfl
theorem by_5 : bytesB Tryd.prog 5 = some 1 := by kernel_rfl
theorem by_9 : bytesB Tryd.prog 9 = some 16 := by kernel_rfl
theorem by_23 : bytesB Tryd.prog 23 = some 24 := by kernel_rfl
theorem by_25 : bytesB Tryd.prog 25 = some 24 := by kernel_rfl
theorem by_33 : bytesB Tryd.prog 33 = some 24 := by kernel_rfl
theorem by_41 : bytesB Tryd.prog 41 = some 8 := by kernel_rfl
theorem by_51 : bytesB Tryd.prog 51 = some 4 := by kernel_rfl
theorem by_58 : bytesB Tryd.prog 58 = some 8 := by kernel_rfl
theorem by_60 : bytesB Tryd.prog 60 = some 32 := by kernel_rfl
theorem by_83 : bytesB Tryd.prog 83 = some 24 := by kernel_rfl
theorem by_97 : bytesB Tryd.prog 97 = some 65 := by kernel_rfl
theorem el_23 : tdSlice Tryd.prog 23 = some 51 := by kernel_rfl
theorem el_33 : tdSlice Tryd.prog 33 = some 5 := by kernel_rfl
theorem el_52 : tdSlice Tryd.prog 52 = some 9 := by kernel_rfl
theorem ar_83 : tdArray Tryd.prog 83 = some (24, 5) := by kernel_rfl
theorem ar_96 : tdArray Tryd.prog 96 = some (20, 41) := by kernel_rfl
theorem ar_97 : tdArray Tryd.prog 97 = some (65, 5) := by kernel_rfl
theorem ar_101 : tdArray Tryd.prog 101 = some (32, 5) := by kernel_rfl
theorem ar_102 : tdArray Tryd.prog 102 = some (64, 5) := by kernel_rfl
theorem zb_5 : zeroB Tryd.prog 5 = some (.int .u8 0) := by kernel_rfl
theorem zb_9 : zeroB Tryd.prog 9 = some (.string ⟨#[]⟩) := by kernel_rfl
theorem zb_25 : zeroB Tryd.prog 25 = some (.agg [.slice none 0 0].toArray) := by kernel_rfl
theorem zb_51 : zeroB Tryd.prog 51 = some (.int .u32 0) := by kernel_rfl
theorem zb_60 : zeroB Tryd.prog 60 = some (.agg [.pointer none, .slice none 0 0].toArray) := by kernel_rfl
theorem zb_83 : zeroB Tryd.prog 83 = some (.agg [.int .u8 0, .int .u8 0, .int .u8 0, .int .u8 0, .int .u8 0, .int .u8 0, .int .u8 0, .int .u8 0, .int .u8 0, .int .u8 0, .int .u8 0, .int .u8 0, .int .u8 0, .int .u8 0, .int .u8 0, .int .u8 0, .int .u8 0, .int .u8 0, .int .u8 0, .int .u8 0, .int .u8 0, .int .u8 0, .int .u8 0, .int .u8 0].toArray) := by kernel_rfl
theorem zb_97 : zeroB Tryd.prog 97 = some (.agg [.int .u8 0, .int .u8 0, .int .u8 0, .int .u8 0, .int .u8 0, .int .u8 0, .int .u8 0, .int .u8 0, .int .u8 0, .int .u8 0, .int .u8 0, .int .u8 0, .int .u8 0, .int .u8 0, .int .u8 0, .int .u8 0, .int .u8 0, .int .u8 0, .int .u8 0, .int .u8 0, .int .u8 0, .int .u8 0, .int .u8 0, .int .u8 0, .int .u8 0, .int .u8 0, .int .u8 0, .int .u8 0, .int .u8 0, .int .u8 0, .int .u8 0, .int .u8 0, .int .u8 0, .int .u8 0, .int .u8 0, .int .u8 0, .int .u8 0, .int .u8 0, .int .u8 0, .int .u8 0, .int .u8 0, .int .u8 0, .int .u8 0, .int .u8 0, .int .u8 0, .int .u8 0, .int .u8 0, .int .u8 0, .int .u8 0, .int .u8 0, .int .u8 0, .int .u8 0, .int .u8 0, .int .u8 0, .int .u8 0, .int .u8 0, .int .u8 0, .int .u8 0, .int .u8 0, .int .u8 0, .int .u8 0, .int .u8 0, .int .u8 0, .int .u8 0, .int .u8 0].toArray) := by kernel_rfl
theorem fs_25 : fieldsB Tryd.prog 25 = some [(0, 1)] := by kernel_rfl
theorem fs_60 : fieldsB Tryd.prog 60 = some [(0, 1), (1, 1)] := by kernel_rfl
theorem ti_3 : tdInt Tryd.prog 3 = some .i64 := by kernel_rfl
theorem ti_5 : tdInt Tryd.prog 5 = some .u8 := by kernel_rfl
theorem ti_38 : tdInt Tryd.prog 38 = some .u64 := by kernel_rfl
theorem ti_41 : tdInt Tryd.prog 41 = some .u64 := by kernel_rfl
theorem ti_51 : tdInt Tryd.prog 51 = some .u32 := by kernel_rfl
theorem ia_83 : intArray Tryd.prog 83 24 = true := by kernel_rfl
theorem zk_83 : zeroB Tryd.prog 83 = some (.agg (flat (eK .u8) (List.replicate 24 0)).toArray) := by kernel_rfl
theorem ia_96 : intArray Tryd.prog 96 20 = true := by kernel_rfl
theorem zk_96 : zeroB Tryd.prog 96 = some (.agg (flat (eK .u64) (List.replicate 20 0)).toArray) := by kernel_rfl
theorem ia_97 : intArray Tryd.prog 97 65 = true := by kernel_rfl
theorem zk_97 : zeroB Tryd.prog 97 = some (.agg (flat (eK .u8) (List.replicate 65 0)).toArray) := by kernel_rfl
theorem ia_101 : intArray Tryd.prog 101 32 = true := by kernel_rfl
theorem zk_101 : zeroB Tryd.prog 101 = some (.agg (flat (eK .u8) (List.replicate 32 0)).toArray) := by kernel_rfl
theorem ia_102 : intArray Tryd.prog 102 64 = true := by kernel_rfl
theorem zk_102 : zeroB Tryd.prog 102 = some (.agg (flat (eK .u8) (List.replicate 64 0)).toArray) := by kernel_rfl
theorem ub_4 : Tryd.prog.underlying 4 = some .bool := by kernel_rfl
theorem us_9 : Tryd.prog.underlying 9 = some .string := by kernel_rfl
theorem gf_9 : goFunc Tryd.prog 9 = true := by kernel_rfl
theorem gf_10 : goFunc Tryd.prog 10 = true := by kernel_rfl
theorem gf_11 : goFunc Tryd.prog 11 = true := by kernel_rfl
theorem gf_12 : goFunc Tryd.prog 12 = true := by kernel_rfl
theorem gf_13 : goFunc Tryd.prog 13 = true := by kernel_rfl
theorem gf_14 : goFunc Tryd.prog 14 = true := by kernel_rfl
theorem gf_15 : goFunc Tryd.prog 15 = true := by kernel_rfl
theorem gf_16 : goFunc Tryd.prog 16 = true := by kernel_rfl
theorem gf_17 : goFunc Tryd.prog 17 = true := by kernel_rfl
theorem gf_18 : goFunc Tryd.prog 18 = true := by kernel_rfl
theorem gf_19 : goFunc Tryd.prog 19 = true := by kernel_rfl
theorem gf_20 : goFunc Tryd.prog 20 = true := by kernel_rfl
theorem gf_21 : goFunc Tryd.prog 21 = true := by kernel_rfl
theorem gf_22 : goFunc Tryd.prog 22 = true := by kernel_rfl
theorem gf_23 : goFunc Tryd.prog 23 = true := by kernel_rfl
theorem gf_24 : goFunc Tryd.prog 24 = true := by kernel_rfl
theorem gf_25 : goFunc Tryd.prog 25 = true := by kernel_rfl
theorem gf_26 : goFunc Tryd.prog 26 = true := by kernel_rfl
theorem gf_27 : goFunc Tryd.prog 27 = true := by kernel_rfl
theorem gf_28 : goFunc Tryd.prog 28 = true := by kernel_rfl
theorem gf_29 : goFunc Tryd.prog 29 = true := by kernel_rfl
theorem gf_30 : goFunc Tryd.prog 30 = true := by kernel_rfl
theorem gf_31 : goFunc Tryd.prog 31 = true := by kernel_rfl
theorem gf_32 : goFunc Tryd.prog 32 = true := by kernel_rfl
theorem gf_33 : goFunc Tryd.prog 33 = true := by kernel_rfl
theorem gf_34 : goFunc Tryd.prog 34 = true := by kernel_rfl
theorem gf_35 : goFunc Tryd.prog 35 = true := by kernel_rfl
theorem gf_36 : goFunc Tryd.prog 36 = true := by kernel_rfl
theorem gf_37 : goFunc Tryd.prog 37 = true := by kernel_rfl
theorem gf_38 : goFunc Tryd.prog 38 = true := by kernel_rfl
theorem gf_39 : goFunc Tryd.prog 39 = true := by kernel_rfl
theorem gf_40 : goFunc Tryd.prog 40 = true := by kernel_rfl
theorem gf_41 : goFunc Tryd.prog 41 = true := by kernel_rfl
theorem gf_42 : goFunc Tryd.prog 42 = true := by kernel_rfl
theorem gf_43 : goFunc Tryd.prog 43 = true := by kernel_rfl
theorem gf_44 : goFunc Tryd.prog 44 = true := by kernel_rfl
theorem gf_45 : goFunc Tryd.prog 45 = true := by kernel_rfl
theorem gf_46 : goFunc Tryd.prog 46 = true := by kernel_rfl
theorem gf_47 : goFunc Tryd.prog 47 = true := by kernel_rfl
theorem gf_48 : goFunc Tryd.prog 48 = true := by kernel_rfl
theorem gf_49 : goFunc Tryd.prog 49 = true := by kernel_rfl
theorem gf_50 : goFunc Tryd.prog 50 = true := by kernel_rfl
theorem gf_51 : goFunc Tryd.prog 51 = true := by kernel_rfl
theorem gf_52 : goFunc Tryd.prog 52 = true := by kernel_rfl
theorem gf_53 : goFunc Tryd.prog 53 = true := by kernel_rfl
theorem gf_54 : goFunc Tryd.prog 54 = true := by kernel_rfl
theorem gf_55 : goFunc Tryd.prog 55 = true := by kernel_rfl
theorem gf_56 : goFunc Tryd.prog 56 = true := by kernel_rfl
theorem gf_58 : goFunc Tryd.prog 58 = true := by kernel_rfl
theorem gf_59 : goFunc Tryd.prog 59 = true := by kernel_rfl
theorem gf_60 : goFunc Tryd.prog 60 = true := by kernel_rfl
theorem gf_61 : goFunc Tryd.prog 61 = true := by kernel_rfl
theorem gf_62 : goFunc Tryd.prog 62 = true := by kernel_rfl
theorem gf_64 : goFunc Tryd.prog 64 = true := by kernel_rfl
theorem gf_65 : goFunc Tryd.prog 65 = true := by kernel_rfl
end Go.Proofs.YtjaeblkgjbncmaaDoor

