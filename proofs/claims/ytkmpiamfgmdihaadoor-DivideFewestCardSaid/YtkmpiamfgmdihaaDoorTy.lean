/-
  Facts on the types of the loaded program, one a type: sizes, offsets, zero values, elements.
-/
import Derived.Test.YtkmpiamfgmdihaaDoorFw13
import Derived.Test.YtkmpiamfgmdihaaDoorProg
import Derived.KernelRfl
namespace Go.Proofs.YtkmpiamfgmdihaaDoor
open Go Go.Fw

theorem mixed : Tryd.prog.follows .mixedOrders = true := by kernel_rfl
theorem fd_32_0 : fieldB Tryd.prog 32 0 = some 0 := by kernel_rfl
theorem fd_32_1 : fieldB Tryd.prog 32 1 = some 1 := by kernel_rfl
theorem sz_3 : sizeB Tryd.prog 3 = some 1 := by kernel_rfl
theorem sz_4 : sizeB Tryd.prog 4 = some 1 := by kernel_rfl
theorem sz_5 : sizeB Tryd.prog 5 = some 1 := by kernel_rfl
theorem sz_32 : sizeB Tryd.prog 32 = some 2 := by kernel_rfl
theorem by_3 : bytesB Tryd.prog 3 = some 8 := by kernel_rfl
theorem by_4 : bytesB Tryd.prog 4 = some 1 := by kernel_rfl
theorem by_5 : bytesB Tryd.prog 5 = some 1 := by kernel_rfl
theorem by_32 : bytesB Tryd.prog 32 = some 16 := by kernel_rfl
theorem el_22 : tdSlice Tryd.prog 22 = some 4 := by kernel_rfl
theorem el_24 : tdSlice Tryd.prog 24 = some 32 := by kernel_rfl
theorem ar_80 : tdArray Tryd.prog 80 = some (32, 5) := by kernel_rfl
theorem ar_81 : tdArray Tryd.prog 81 = some (64, 5) := by kernel_rfl
theorem zb_4 : zeroB Tryd.prog 4 = some (.bool false) := by kernel_rfl
theorem zb_32 : zeroB Tryd.prog 32 = some (.agg [.int .i64 0, .int .i64 0].toArray) := by kernel_rfl
theorem fs_32 : fieldsB Tryd.prog 32 = some [(0, 1), (1, 1)] := by kernel_rfl
theorem ti_3 : tdInt Tryd.prog 3 = some .i64 := by kernel_rfl
theorem ti_5 : tdInt Tryd.prog 5 = some .u8 := by kernel_rfl
theorem ti_72 : tdInt Tryd.prog 72 = some .u64 := by kernel_rfl
theorem ti_77 : tdInt Tryd.prog 77 = some .u32 := by kernel_rfl
theorem ti_79 : tdInt Tryd.prog 79 = some .u64 := by kernel_rfl
theorem is_32 : intStruct Tryd.prog 32 2 = true := by kernel_rfl
theorem ia_80 : intArray Tryd.prog 80 32 = true := by kernel_rfl
theorem zk_80 : zeroB Tryd.prog 80 = some (.agg (flat (eK .u8) (List.replicate 32 0)).toArray) := by kernel_rfl
theorem ia_81 : intArray Tryd.prog 81 64 = true := by kernel_rfl
theorem zk_81 : zeroB Tryd.prog 81 = some (.agg (flat (eK .u8) (List.replicate 64 0)).toArray) := by kernel_rfl
theorem ub_4 : Tryd.prog.underlying 4 = some .bool := by kernel_rfl
theorem us_9 : Tryd.prog.underlying 9 = some .string := by kernel_rfl
theorem gf_10 : goFunc Tryd.prog 10 = true := by kernel_rfl
theorem gf_11 : goFunc Tryd.prog 11 = true := by kernel_rfl
theorem gf_12 : goFunc Tryd.prog 12 = true := by kernel_rfl
theorem gf_13 : goFunc Tryd.prog 13 = true := by kernel_rfl
theorem gf_14 : goFunc Tryd.prog 14 = true := by kernel_rfl
theorem gf_15 : goFunc Tryd.prog 15 = true := by kernel_rfl
theorem gf_16 : goFunc Tryd.prog 16 = true := by kernel_rfl
theorem gf_17 : goFunc Tryd.prog 17 = true := by kernel_rfl
theorem gf_18 : goFunc Tryd.prog 18 = true := by kernel_rfl
theorem gf_19 : goFunc Tryd.prog 19 = true := by kernel_rfl
theorem gf_20 : goFunc Tryd.prog 20 = true := by kernel_rfl
theorem gf_21 : goFunc Tryd.prog 21 = true := by kernel_rfl
theorem gf_22 : goFunc Tryd.prog 22 = true := by kernel_rfl
theorem gf_23 : goFunc Tryd.prog 23 = true := by kernel_rfl
theorem gf_24 : goFunc Tryd.prog 24 = true := by kernel_rfl
theorem gf_25 : goFunc Tryd.prog 25 = true := by kernel_rfl
theorem gf_26 : goFunc Tryd.prog 26 = true := by kernel_rfl
theorem gf_27 : goFunc Tryd.prog 27 = true := by kernel_rfl
theorem gf_28 : goFunc Tryd.prog 28 = true := by kernel_rfl
theorem gf_29 : goFunc Tryd.prog 29 = true := by kernel_rfl
theorem gf_30 : goFunc Tryd.prog 30 = true := by kernel_rfl
theorem gf_31 : goFunc Tryd.prog 31 = true := by kernel_rfl
theorem gf_32 : goFunc Tryd.prog 32 = true := by kernel_rfl
theorem gf_33 : goFunc Tryd.prog 33 = true := by kernel_rfl
theorem gf_34 : goFunc Tryd.prog 34 = true := by kernel_rfl
theorem gf_35 : goFunc Tryd.prog 35 = true := by kernel_rfl
theorem gf_36 : goFunc Tryd.prog 36 = true := by kernel_rfl
theorem gf_38 : goFunc Tryd.prog 38 = true := by kernel_rfl
theorem gf_39 : goFunc Tryd.prog 39 = true := by kernel_rfl
theorem gf_40 : goFunc Tryd.prog 40 = true := by kernel_rfl
theorem gf_41 : goFunc Tryd.prog 41 = true := by kernel_rfl
theorem gf_42 : goFunc Tryd.prog 42 = true := by kernel_rfl
theorem gf_43 : goFunc Tryd.prog 43 = true := by kernel_rfl
theorem gf_44 : goFunc Tryd.prog 44 = true := by kernel_rfl
theorem gf_45 : goFunc Tryd.prog 45 = true := by kernel_rfl
theorem gf_46 : goFunc Tryd.prog 46 = true := by kernel_rfl
theorem gf_47 : goFunc Tryd.prog 47 = true := by kernel_rfl
theorem gf_48 : goFunc Tryd.prog 48 = true := by kernel_rfl
theorem gf_49 : goFunc Tryd.prog 49 = true := by kernel_rfl
theorem gf_50 : goFunc Tryd.prog 50 = true := by kernel_rfl
theorem gf_51 : goFunc Tryd.prog 51 = true := by kernel_rfl
theorem gf_52 : goFunc Tryd.prog 52 = true := by kernel_rfl
theorem gf_53 : goFunc Tryd.prog 53 = true := by kernel_rfl
theorem gf_54 : goFunc Tryd.prog 54 = true := by kernel_rfl
end Go.Proofs.YtkmpiamfgmdihaaDoor

