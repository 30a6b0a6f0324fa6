/-
  Facts on the types of the loaded program, one a type: sizes, offsets, zero values, elements.
-/
import Derived.Test.YtmgmpgccnohpkaaFw8
import Derived.Test.YtmgmpgccnohpkaaProg
import Derived.KernelRfl
namespace Go.Proofs.Ytmgmpgccnohpkaa
open Go Go.Fw

theorem mixed : Try.prog.follows .mixedOrders = true := by kernel_rfl
theorem fd_26_0 : fieldB Try.prog 26 0 = some 0 := by kernel_rfl
theorem fd_26_1 : fieldB Try.prog 26 1 = some 1 := by kernel_rfl
theorem fd_34_0 : fieldB Try.prog 34 0 = some 0 := by kernel_rfl
theorem fd_34_1 : fieldB Try.prog 34 1 = some 1 := by kernel_rfl
theorem fd_34_2 : fieldB Try.prog 34 2 = some 2 := by kernel_rfl
theorem fd_34_3 : fieldB Try.prog 34 3 = some 3 := by kernel_rfl
theorem sz_3 : sizeB Try.prog 3 = some 1 := by kernel_rfl
theorem sz_22 : sizeB Try.prog 22 = some 1 := by kernel_rfl
theorem sz_24 : sizeB Try.prog 24 = some 1 := by kernel_rfl
theorem sz_26 : sizeB Try.prog 26 = some 2 := by kernel_rfl
theorem sz_34 : sizeB Try.prog 34 = some 4 := by kernel_rfl
theorem by_3 : bytesB Try.prog 3 = some 8 := by kernel_rfl
theorem by_22 : bytesB Try.prog 22 = some 24 := by kernel_rfl
theorem by_24 : bytesB Try.prog 24 = some 24 := by kernel_rfl
theorem by_26 : bytesB Try.prog 26 = some 48 := by kernel_rfl
theorem by_34 : bytesB Try.prog 34 = some 32 := by kernel_rfl
theorem el_22 : tdSlice Try.prog 22 = some 34 := by kernel_rfl
theorem el_24 : tdSlice Try.prog 24 = some 3 := by kernel_rfl
theorem zb_3 : zeroB Try.prog 3 = some (.int .i64 0) := by kernel_rfl
theorem zb_26 : zeroB Try.prog 26 = some (.agg [.slice none 0 0, .slice none 0 0].toArray) := by kernel_rfl
theorem zb_34 : zeroB Try.prog 34 = some (.agg [.int .i64 0, .int .i64 0, .int .i64 0, .int .i64 0].toArray) := by kernel_rfl
theorem fs_26 : fieldsB Try.prog 26 = some [(0, 1), (1, 1)] := by kernel_rfl
theorem fs_34 : fieldsB Try.prog 34 = some [(0, 1), (1, 1), (2, 1), (3, 1)] := by kernel_rfl
theorem ti_3 : tdInt Try.prog 3 = some .i64 := by kernel_rfl
theorem ti_5 : tdInt Try.prog 5 = some .u8 := by kernel_rfl
theorem is_34 : intStruct Try.prog 34 4 = true := by kernel_rfl
theorem gf_9 : goFunc Try.prog 9 = true := by kernel_rfl
theorem gf_10 : goFunc Try.prog 10 = true := by kernel_rfl
theorem gf_11 : goFunc Try.prog 11 = true := by kernel_rfl
theorem gf_12 : goFunc Try.prog 12 = true := by kernel_rfl
theorem gf_13 : goFunc Try.prog 13 = true := by kernel_rfl
theorem gf_14 : goFunc Try.prog 14 = true := by kernel_rfl
theorem gf_15 : goFunc Try.prog 15 = true := by kernel_rfl
theorem gf_16 : goFunc Try.prog 16 = true := by kernel_rfl
theorem gf_17 : goFunc Try.prog 17 = true := by kernel_rfl
theorem gf_18 : goFunc Try.prog 18 = true := by kernel_rfl
theorem gf_19 : goFunc Try.prog 19 = true := by kernel_rfl
theorem gf_20 : goFunc Try.prog 20 = true := by kernel_rfl
theorem gf_21 : goFunc Try.prog 21 = true := by kernel_rfl
theorem gf_22 : goFunc Try.prog 22 = true := by kernel_rfl
theorem gf_23 : goFunc Try.prog 23 = true := by kernel_rfl
theorem gf_24 : goFunc Try.prog 24 = true := by kernel_rfl
theorem gf_25 : goFunc Try.prog 25 = true := by kernel_rfl
theorem gf_26 : goFunc Try.prog 26 = true := by kernel_rfl
theorem gf_27 : goFunc Try.prog 27 = true := by kernel_rfl
theorem gf_28 : goFunc Try.prog 28 = true := by kernel_rfl
theorem gf_29 : goFunc Try.prog 29 = true := by kernel_rfl
theorem gf_30 : goFunc Try.prog 30 = true := by kernel_rfl
theorem gf_31 : goFunc Try.prog 31 = true := by kernel_rfl
theorem gf_32 : goFunc Try.prog 32 = true := by kernel_rfl
theorem gf_33 : goFunc Try.prog 33 = true := by kernel_rfl
theorem gf_34 : goFunc Try.prog 34 = true := by kernel_rfl
theorem gf_36 : goFunc Try.prog 36 = true := by kernel_rfl
theorem gf_37 : goFunc Try.prog 37 = true := by kernel_rfl
theorem gf_38 : goFunc Try.prog 38 = true := by kernel_rfl
end Go.Proofs.Ytmgmpgccnohpkaa

