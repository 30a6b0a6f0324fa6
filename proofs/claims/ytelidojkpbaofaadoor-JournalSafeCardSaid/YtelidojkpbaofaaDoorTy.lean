/-
  Facts on the types of the loaded program, one a type: sizes, offsets, zero values, elements.
-/
import Derived.Test.YtelidojkpbaofaaDoorFw13
import Derived.Test.YtelidojkpbaofaaDoorProg
import Derived.KernelRfl
namespace Go.Proofs.YtelidojkpbaofaaDoor
open Go Go.Fw

theorem mixed : Tryd.prog.follows .mixedOrders = true := by kernel_rfl
theorem fd_24_0 : fieldB Tryd.prog 24 0 = some 0 := by kernel_rfl
theorem fd_24_1 : fieldB Tryd.prog 24 1 = some 1 := by kernel_rfl
theorem fd_24_2 : fieldB Tryd.prog 24 2 = some 2 := by kernel_rfl
theorem fd_53_0 : fieldB Tryd.prog 53 0 = some 0 := by kernel_rfl
theorem fd_53_1 : fieldB Tryd.prog 53 1 = some 1 := by kernel_rfl
theorem fd_53_2 : fieldB Tryd.prog 53 2 = some 2 := by kernel_rfl
theorem fd_58_0 : fieldB Tryd.prog 58 0 = some 0 := by kernel_rfl
theorem sz_3 : sizeB Tryd.prog 3 = some 1 := by kernel_rfl
theorem sz_5 : sizeB Tryd.prog 5 = some 1 := by kernel_rfl
theorem sz_22 : sizeB Tryd.prog 22 = some 1 := by kernel_rfl
theorem sz_24 : sizeB Tryd.prog 24 = some 3 := by kernel_rfl
theorem sz_48 : sizeB Tryd.prog 48 = some 1 := by kernel_rfl
theorem sz_53 : sizeB Tryd.prog 53 = some 3 := by kernel_rfl
theorem sz_58 : sizeB Tryd.prog 58 = some 3 := by kernel_rfl
theorem sz_67 : sizeB Tryd.prog 67 = some 32 := by kernel_rfl
theorem sz_74 : sizeB Tryd.prog 74 = some 1 := by kernel_rfl
theorem sz_75 : sizeB Tryd.prog 75 = some 8 := by kernel_rfl
theorem sz_82 : sizeB Tryd.prog 82 = some 64 := by kernel_rfl
theorem by_3 : bytesB Tryd.prog 3 = some 8 := by kernel_rfl
theorem by_5 : bytesB Tryd.prog 5 = some 1 := by kernel_rfl
theorem by_22 : bytesB Tryd.prog 22 = some 24 := by kernel_rfl
theorem by_24 : bytesB Tryd.prog 24 = some 40 := by kernel_rfl
theorem by_48 : bytesB Tryd.prog 48 = some 2 := by kernel_rfl
theorem by_53 : bytesB Tryd.prog 53 = some 40 := by kernel_rfl
theorem by_58 : bytesB Tryd.prog 58 = some 40 := by kernel_rfl
theorem by_67 : bytesB Tryd.prog 67 = some 32 := by kernel_rfl
theorem by_74 : bytesB Tryd.prog 74 = some 4 := by kernel_rfl
theorem by_75 : bytesB Tryd.prog 75 = some 32 := by kernel_rfl
theorem by_82 : bytesB Tryd.prog 82 = some 256 := by kernel_rfl
theorem el_22 : tdSlice Tryd.prog 22 = some 5 := by kernel_rfl
theorem el_36 : tdSlice Tryd.prog 36 = some 22 := by kernel_rfl
theorem el_51 : tdSlice Tryd.prog 51 = some 53 := by kernel_rfl
theorem el_77 : tdSlice Tryd.prog 77 = some 74 := by kernel_rfl
theorem ar_67 : tdArray Tryd.prog 67 = some (32, 5) := by kernel_rfl
theorem ar_75 : tdArray Tryd.prog 75 = some (8, 74) := by kernel_rfl
theorem ar_82 : tdArray Tryd.prog 82 = some (64, 74) := by kernel_rfl
theorem zb_5 : zeroB Tryd.prog 5 = some (.int .u8 0) := by kernel_rfl
theorem zb_22 : zeroB Tryd.prog 22 = some (.slice none 0 0) := by kernel_rfl
theorem zb_24 : zeroB Tryd.prog 24 = some (.agg [.slice none 0 0, .int .i64 0, .int .i64 0].toArray) := by kernel_rfl
theorem zb_53 : zeroB Tryd.prog 53 = some (.agg [.int .u8 0, .slice none 0 0, .int .u16 0].toArray) := by kernel_rfl
theorem zb_58 : zeroB Tryd.prog 58 = some (.agg [.slice none 0 0, .int .i64 0, .int .i64 0].toArray) := by kernel_rfl
theorem zb_67 : zeroB Tryd.prog 67 = some (.agg [.int .u8 0, .int .u8 0, .int .u8 0, .int .u8 0, .int .u8 0, .int .u8 0, .int .u8 0, .int .u8 0, .int .u8 0, .int .u8 0, .int .u8 0, .int .u8 0, .int .u8 0, .int .u8 0, .int .u8 0, .int .u8 0, .int .u8 0, .int .u8 0, .int .u8 0, .int .u8 0, .int .u8 0, .int .u8 0, .int .u8 0, .int .u8 0, .int .u8 0, .int .u8 0, .int .u8 0, .int .u8 0, .int .u8 0, .int .u8 0, .int .u8 0, .int .u8 0].toArray) := by kernel_rfl
theorem zb_74 : zeroB Tryd.prog 74 = some (.int .u32 0) := by kernel_rfl
theorem zb_75 : zeroB Tryd.prog 75 = some (.agg [.int .u32 0, .int .u32 0, .int .u32 0, .int .u32 0, .int .u32 0, .int .u32 0, .int .u32 0, .int .u32 0].toArray) := by kernel_rfl
theorem zb_82 : zeroB Tryd.prog 82 = some (.agg [.int .u32 0, .int .u32 0, .int .u32 0, .int .u32 0, .int .u32 0, .int .u32 0, .int .u32 0, .int .u32 0, .int .u32 0, .int .u32 0, .int .u32 0, .int .u32 0, .int .u32 0, .int .u32 0, .int .u32 0, .int .u32 0, .int .u32 0, .int .u32 0, .int .u32 0, .int .u32 0, .int .u32 0, .int .u32 0, .int .u32 0, .int .u32 0, .int .u32 0, .int .u32 0, .int .u32 0, .int .u32 0, .int .u32 0, .int .u32 0, .int .u32 0, .int .u32 0, .int .u32 0, .int .u32 0, .int .u32 0, .int .u32 0, .int .u32 0, .int .u32 0, .int .u32 0, .int .u32 0, .int .u32 0, .int .u32 0, .int .u32 0, .int .u32 0, .int .u32 0, .int .u32 0, .int .u32 0, .int .u32 0, .int .u32 0, .int .u32 0, .int .u32 0, .int .u32 0, .int .u32 0, .int .u32 0, .int .u32 0, .int .u32 0, .int .u32 0, .int .u32 0, .int .u32 0, .int .u32 0, .int .u32 0, .int .u32 0, .int .u32 0, .int .u32 0].toArray) := by kernel_rfl
theorem fs_24 : fieldsB Tryd.prog 24 = some [(0, 1), (1, 1), (2, 1)] := by kernel_rfl
theorem fs_53 : fieldsB Tryd.prog 53 = some [(0, 1), (1, 1), (2, 1)] := by kernel_rfl
theorem fs_58 : fieldsB Tryd.prog 58 = some [(0, 3)] := by kernel_rfl
theorem ti_3 : tdInt Tryd.prog 3 = some .i64 := by kernel_rfl
theorem ti_5 : tdInt Tryd.prog 5 = some .u8 := by kernel_rfl
theorem ti_48 : tdInt Tryd.prog 48 = some .u16 := by kernel_rfl
theorem ti_65 : tdInt Tryd.prog 65 = some .u64 := by kernel_rfl
theorem ti_73 : tdInt Tryd.prog 73 = some .u64 := by kernel_rfl
theorem ti_74 : tdInt Tryd.prog 74 = some .u32 := by kernel_rfl
theorem ia_67 : intArray Tryd.prog 67 32 = true := by kernel_rfl
theorem zk_67 : zeroB Tryd.prog 67 = some (.agg (flat (eK .u8) (List.replicate 32 0)).toArray) := by kernel_rfl
theorem ia_75 : intArray Tryd.prog 75 8 = true := by kernel_rfl
theorem zk_75 : zeroB Tryd.prog 75 = some (.agg (flat (eK .u32) (List.replicate 8 0)).toArray) := by kernel_rfl
theorem ia_82 : intArray Tryd.prog 82 64 = true := by kernel_rfl
theorem zk_82 : zeroB Tryd.prog 82 = some (.agg (flat (eK .u32) (List.replicate 64 0)).toArray) := by kernel_rfl
theorem ub_4 : Tryd.prog.underlying 4 = some .bool := by kernel_rfl
theorem us_9 : Tryd.prog.underlying 9 = some .string := by kernel_rfl
theorem gf_10 : goFunc Tryd.prog 10 = true := by kernel_rfl
theorem gf_11 : goFunc Tryd.prog 11 = true := by kernel_rfl
theorem gf_12 : goFunc Tryd.prog 12 = true := by kernel_rfl
theorem gf_13 : goFunc Tryd.prog 13 = true := by kernel_rfl
theorem gf_14 : goFunc Tryd.prog 14 = true := by kernel_rfl
theorem gf_15 : goFunc Tryd.prog 15 = true := by kernel_rfl
theorem gf_16 : goFunc Tryd.prog 16 = true := by kernel_rfl
theorem gf_17 : goFunc Tryd.prog 17 = true := by kernel_rfl
theorem gf_18 : goFunc Tryd.prog 18 = true := by kernel_rfl
theorem gf_19 : goFunc Tryd.prog 19 = true := by kernel_rfl
theorem gf_20 : goFunc Tryd.prog 20 = true := by kernel_rfl
theorem gf_21 : goFunc Tryd.prog 21 = true := by kernel_rfl
theorem gf_22 : goFunc Tryd.prog 22 = true := by kernel_rfl
theorem gf_23 : goFunc Tryd.prog 23 = true := by kernel_rfl
theorem gf_24 : goFunc Tryd.prog 24 = true := by kernel_rfl
theorem gf_25 : goFunc Tryd.prog 25 = true := by kernel_rfl
theorem gf_26 : goFunc Tryd.prog 26 = true := by kernel_rfl
theorem gf_27 : goFunc Tryd.prog 27 = true := by kernel_rfl
theorem gf_28 : goFunc Tryd.prog 28 = true := by kernel_rfl
theorem gf_29 : goFunc Tryd.prog 29 = true := by kernel_rfl
theorem gf_30 : goFunc Tryd.prog 30 = true := by kernel_rfl
theorem gf_31 : goFunc Tryd.prog 31 = true := by kernel_rfl
theorem gf_32 : goFunc Tryd.prog 32 = true := by kernel_rfl
theorem gf_33 : goFunc Tryd.prog 33 = true := by kernel_rfl
theorem gf_34 : goFunc Tryd.prog 34 = true := by kernel_rfl
theorem gf_35 : goFunc Tryd.prog 35 = true := by kernel_rfl
theorem gf_36 : goFunc Tryd.prog 36 = true := by kernel_rfl
theorem gf_37 : goFunc Tryd.prog 37 = true := by kernel_rfl
theorem gf_39 : goFunc Tryd.prog 39 = true := by kernel_rfl
theorem gf_40 : goFunc Tryd.prog 40 = true := by kernel_rfl
theorem gf_41 : goFunc Tryd.prog 41 = true := by kernel_rfl
theorem gf_42 : goFunc Tryd.prog 42 = true := by kernel_rfl
theorem gf_44 : goFunc Tryd.prog 44 = true := by kernel_rfl
theorem gf_45 : goFunc Tryd.prog 45 = true := by kernel_rfl
theorem gf_46 : goFunc Tryd.prog 46 = true := by kernel_rfl
theorem gf_47 : goFunc Tryd.prog 47 = true := by kernel_rfl
theorem gf_48 : goFunc Tryd.prog 48 = true := by kernel_rfl
theorem gf_49 : goFunc Tryd.prog 49 = true := by kernel_rfl
theorem gf_50 : goFunc Tryd.prog 50 = true := by kernel_rfl
theorem gf_51 : goFunc Tryd.prog 51 = true := by kernel_rfl
theorem gf_52 : goFunc Tryd.prog 52 = true := by kernel_rfl
theorem gf_53 : goFunc Tryd.prog 53 = true := by kernel_rfl
theorem gf_54 : goFunc Tryd.prog 54 = true := by kernel_rfl
theorem gf_55 : goFunc Tryd.prog 55 = true := by kernel_rfl
theorem gf_56 : goFunc Tryd.prog 56 = true := by kernel_rfl
theorem gf_57 : goFunc Tryd.prog 57 = true := by kernel_rfl
end Go.Proofs.YtelidojkpbaofaaDoor

