/-
  Facts on the types of the loaded program, one a type: sizes, offsets, zero values, elements.
-/
import Derived.Test.YtidjoikheklpiaaFw11
import Derived.Test.YtidjoikheklpiaaProg
import Derived.KernelRfl
namespace Go.Proofs.Ytidjoikheklpiaa
open Go Go.Fw

theorem mixed : Try.prog.follows .mixedOrders = true := by kernel_rfl
theorem fd_33_0 : fieldB Try.prog 33 0 = some 0 := by kernel_rfl
theorem fd_33_1 : fieldB Try.prog 33 1 = some 1 := by kernel_rfl
theorem fd_33_2 : fieldB Try.prog 33 2 = some 2 := by kernel_rfl
theorem fd_57_0 : fieldB Try.prog 57 0 = some 0 := by kernel_rfl
theorem fd_57_1 : fieldB Try.prog 57 1 = some 1 := by kernel_rfl
theorem fd_57_2 : fieldB Try.prog 57 2 = some 2 := by kernel_rfl
theorem sz_3 : sizeB Try.prog 3 = some 1 := by kernel_rfl
theorem sz_22 : sizeB Try.prog 22 = some 1 := by kernel_rfl
theorem sz_33 : sizeB Try.prog 33 = some 3 := by kernel_rfl
theorem sz_45 : sizeB Try.prog 45 = some 1 := by kernel_rfl
theorem sz_57 : sizeB Try.prog 57 = some 3 := by kernel_rfl
theorem sz_67 : sizeB Try.prog 67 = some 8 := by kernel_rfl
theorem sz_68 : sizeB Try.prog 68 = some 64 := by kernel_rfl
theorem by_3 : bytesB Try.prog 3 = some 8 := by kernel_rfl
theorem by_22 : bytesB Try.prog 22 = some 24 := by kernel_rfl
theorem by_33 : bytesB Try.prog 33 = some 24 := by kernel_rfl
theorem by_45 : bytesB Try.prog 45 = some 24 := by kernel_rfl
theorem by_57 : bytesB Try.prog 57 = some 24 := by kernel_rfl
theorem by_67 : bytesB Try.prog 67 = some 64 := by kernel_rfl
theorem by_68 : bytesB Try.prog 68 = some 512 := by kernel_rfl
theorem el_22 : tdSlice Try.prog 22 = some 3 := by kernel_rfl
theorem el_23 : tdSlice Try.prog 23 = some 33 := by kernel_rfl
theorem el_45 : tdSlice Try.prog 45 = some 57 := by kernel_rfl
theorem el_72 : tdSlice Try.prog 72 = some 45 := by kernel_rfl
theorem ar_67 : tdArray Try.prog 67 = some (8, 3) := by kernel_rfl
theorem ar_68 : tdArray Try.prog 68 = some (8, 67) := by kernel_rfl
theorem zb_3 : zeroB Try.prog 3 = some (.int .i64 0) := by kernel_rfl
theorem zb_33 : zeroB Try.prog 33 = some (.agg [.int .i64 0, .int .i64 0, .int .i64 0].toArray) := by kernel_rfl
theorem zb_45 : zeroB Try.prog 45 = some (.slice none 0 0) := by kernel_rfl
theorem zb_57 : zeroB Try.prog 57 = some (.agg [.int .i64 0, .int .i64 0, .int .i64 0].toArray) := by kernel_rfl
theorem zb_68 : zeroB Try.prog 68 = some (.agg [.int .i64 0, .int .i64 0, .int .i64 0, .int .i64 0, .int .i64 0, .int .i64 0, .int .i64 0, .int .i64 0, .int .i64 0, .int .i64 0, .int .i64 0, .int .i64 0, .int .i64 0, .int .i64 0, .int .i64 0, .int .i64 0, .int .i64 0, .int .i64 0, .int .i64 0, .int .i64 0, .int .i64 0, .int .i64 0, .int .i64 0, .int .i64 0, .int .i64 0, .int .i64 0, .int .i64 0, .int .i64 0, .int .i64 0, .int .i64 0, .int .i64 0, .int .i64 0, .int .i64 0, .int .i64 0, .int .i64 0, .int .i64 0, .int .i64 0, .int .i64 0, .int .i64 0, .int .i64 0, .int .i64 0, .int .i64 0, .int .i64 0, .int .i64 0, .int .i64 0, .int .i64 0, .int .i64 0, .int .i64 0, .int .i64 0, .int .i64 0, .int .i64 0, .int .i64 0, .int .i64 0, .int .i64 0, .int .i64 0, .int .i64 0, .int .i64 0, .int .i64 0, .int .i64 0, .int .i64 0, .int .i64 0, .int .i64 0, .int .i64 0, .int .i64 0].toArray) := by kernel_rfl
theorem fs_33 : fieldsB Try.prog 33 = some [(0, 1), (1, 1), (2, 1)] := by kernel_rfl
theorem fs_57 : fieldsB Try.prog 57 = some [(0, 1), (1, 1), (2, 1)] := by kernel_rfl
theorem ti_3 : tdInt Try.prog 3 = some .i64 := by kernel_rfl
theorem is_33 : intStruct Try.prog 33 3 = true := by kernel_rfl
theorem is_57 : intStruct Try.prog 57 3 = true := by kernel_rfl
theorem gf_8 : goFunc Try.prog 8 = true := by kernel_rfl
theorem gf_9 : goFunc Try.prog 9 = true := by kernel_rfl
theorem gf_10 : goFunc Try.prog 10 = true := by kernel_rfl
theorem gf_11 : goFunc Try.prog 11 = true := by kernel_rfl
theorem gf_12 : goFunc Try.prog 12 = true := by kernel_rfl
theorem gf_13 : goFunc Try.prog 13 = true := by kernel_rfl
theorem gf_14 : goFunc Try.prog 14 = true := by kernel_rfl
theorem gf_16 : goFunc Try.prog 16 = true := by kernel_rfl
theorem gf_17 : goFunc Try.prog 17 = true := by kernel_rfl
theorem gf_18 : goFunc Try.prog 18 = true := by kernel_rfl
theorem gf_19 : goFunc Try.prog 19 = true := by kernel_rfl
theorem gf_21 : goFunc Try.prog 21 = true := by kernel_rfl
theorem gf_22 : goFunc Try.prog 22 = true := by kernel_rfl
theorem gf_23 : goFunc Try.prog 23 = true := by kernel_rfl
theorem gf_24 : goFunc Try.prog 24 = true := by kernel_rfl
theorem gf_25 : goFunc Try.prog 25 = true := by kernel_rfl
theorem gf_26 : goFunc Try.prog 26 = true := by kernel_rfl
theorem gf_27 : goFunc Try.prog 27 = true := by kernel_rfl
theorem gf_28 : goFunc Try.prog 28 = true := by kernel_rfl
theorem gf_29 : goFunc Try.prog 29 = true := by kernel_rfl
theorem gf_30 : goFunc Try.prog 30 = true := by kernel_rfl
theorem gf_31 : goFunc Try.prog 31 = true := by kernel_rfl
theorem gf_32 : goFunc Try.prog 32 = true := by kernel_rfl
theorem gf_34 : goFunc Try.prog 34 = true := by kernel_rfl
theorem gf_35 : goFunc Try.prog 35 = true := by kernel_rfl
theorem gf_36 : goFunc Try.prog 36 = true := by kernel_rfl
theorem gf_37 : goFunc Try.prog 37 = true := by kernel_rfl
theorem gf_38 : goFunc Try.prog 38 = true := by kernel_rfl
theorem gf_40 : goFunc Try.prog 40 = true := by kernel_rfl
theorem gf_41 : goFunc Try.prog 41 = true := by kernel_rfl
theorem gf_42 : goFunc Try.prog 42 = true := by kernel_rfl
theorem gf_43 : goFunc Try.prog 43 = true := by kernel_rfl
theorem gf_44 : goFunc Try.prog 44 = true := by kernel_rfl
theorem gf_45 : goFunc Try.prog 45 = true := by kernel_rfl
theorem gf_46 : goFunc Try.prog 46 = true := by kernel_rfl
theorem gf_47 : goFunc Try.prog 47 = true := by kernel_rfl
theorem gf_48 : goFunc Try.prog 48 = true := by kernel_rfl
theorem gf_50 : goFunc Try.prog 50 = true := by kernel_rfl
end Go.Proofs.Ytidjoikheklpiaa

