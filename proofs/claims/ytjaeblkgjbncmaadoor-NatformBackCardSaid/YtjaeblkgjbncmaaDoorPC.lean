/-
  The listed variables of natform's laws, read; the arguments, opened.
-/
import Derived.Test.YtjaeblkgjbncmaaDoorRows
import Derived.Test.YtjaeblkgjbncmaaDoorCards
import Derived.Test.YtjaeblkgjbncmaaDoorTie
import Derived.Test.YtjaeblkgjbncmaaDoorFw17
import Derived.Test.YtjaeblkgjbncmaaDoorWB
import Derived.Lay
import Derived.Carry
import Derived.SevenTiedAt
namespace Go.Proofs.YtjaeblkgjbncmaaDoor
set_option maxRecDepth 20000
set_option linter.unusedSimpArgs false
set_option linter.unusedVariables false
open Go Go.Fw Go.ChangeShapes Go.WideShapes Go.ChangeAt Go.RowKit

theorem Tryd.own : ownKnob Tryd.prog.godebug = none := by kernel_rfl
theorem Tryd.laidOut : laidOutB Tryd.prog = true := by kernel_rfl
abbrev laidL : List (String × DataW Unit) := [("math/bits.deBruijn32tab", Rows.laid_math_bits_deBruijn32tab), ("math/bits.deBruijn64tab", Rows.laid_math_bits_deBruijn64tab), ("internal/strconv.uint64pow10", Rows.laid_internal_strconv_uint64pow10)]
def dB32 : List Int := [0, 1, 28, 2, 29, 14, 24, 3, 30, 22, 20, 15, 25, 17, 4, 8, 31, 27, 13, 23, 21, 19, 16, 7, 26, 12, 18, 6, 11, 5, 10, 9]
def dB64 : List Int := [0, 1, 56, 2, 57, 49, 28, 3, 61, 58, 42, 50, 38, 29, 17, 4, 62, 47, 59, 36, 45, 43, 51, 22, 53, 39, 33, 30, 24, 18, 12, 5, 63, 55, 48, 27, 60, 41, 37, 16, 46, 35, 44, 21, 52, 32, 23, 11, 54, 26, 40, 15, 34, 20, 31, 10, 25, 14, 19, 9, 13, 8, 7, 6]

theorem g_32 : Tryd.prog.globalNamed "math/bits.deBruijn32tab" = some 2 := by kernel_rfl
theorem g_64 : Tryd.prog.globalNamed "math/bits.deBruijn64tab" = some 3 := by kernel_rfl
theorem g_p : Tryd.prog.globalNamed "internal/strconv.uint64pow10" = some 0 := by kernel_rfl
theorem gt_32 : (Tryd.prog.globals[2]?).map (·.type) = some 101 := by kernel_rfl
theorem gt_64 : (Tryd.prog.globals[3]?).map (·.type) = some 102 := by kernel_rfl
theorem gt_p : (Tryd.prog.globals[0]?).map (·.type) = some 96 := by kernel_rfl
theorem cellsOf_5 : Tryd.prog.cellsOf 5 = 1 := by kernel_rfl
theorem cellsOf_51 : Tryd.prog.cellsOf 51 = 1 := by kernel_rfl
theorem und_5 : Tryd.prog.underlying 5 = some (.int .u8) := by kernel_rfl
theorem und_51 : Tryd.prog.underlying 51 = some (.int .u32) := by kernel_rfl
theorem und_41 : Tryd.prog.underlying 41 = some (.int .u64) := by kernel_rfl
theorem und_33 : Tryd.prog.underlying 33 = some (.slice 5) := by kernel_rfl
theorem und_23 : Tryd.prog.underlying 23 = some (.slice 51) := by kernel_rfl
theorem laid_ok {W : World} (h : laidMetH Tryd.prog laidL W) : LT (View.of W) := by
  obtain ⟨ps, hv, _⟩ := laidMet_of_H (by rfl) h
  obtain ⟨_, q, hq⟩ := laid_arr (xs := dB32) g_32 gt_32 (show Tryd.prog.underlying 101 = some (.array 32 5) by kernel_rfl) und_5 (by kernel_rfl) (by kernel_rfl) hv
  obtain ⟨h2, q2, hq2⟩ := laid_arr (xs := dB64) g_64 gt_64 (show Tryd.prog.underlying 102 = some (.array 64 5) by kernel_rfl) und_5 (by kernel_rfl) (by kernel_rfl) hq
  have ht : Lib.TabIs Tryd.prog W "internal/strconv.uint64pow10" .u64 Lib.pow10Tab := by
    obtain ⟨g', t', cs, fuel, p, q, hg', ht', hvar, hd, _, _⟩ := hq2
    obtain rfl := Option.some.inj (g_p.symm.trans hg')
    obtain rfl := Option.some.inj (gt_p.symm.trans ht')
    have e : (Rows.laid_internal_strconv_uint64pow10 : DataW Unit) = Lib.tabData .u64 Lib.pow10Tab := by rfl
    rw [e] at hd
    unfold Lib.TabIs
    rw [hvar, ← Lib.cells_of_tab (show Tryd.prog.underlying 96 = some (.array 20 41) by kernel_rfl) und_41 (by kernel_rfl) (by kernel_rfl) hd]
  refine ⟨.cons ?_ .nil, fun w hw => ?_⟩
  · rw [h2]
    rfl
  · unfold Lib.TabIs World.var? at ht ⊢
    rw [g_p] at ht ⊢
    simp only [Option.bind_some] at ht ⊢
    have h0 : ∀ o, W.heap[0]? = some o → w.heap[0]? = some o := fun o ho => hw 0 o ho
    cases ho : W.heap[0]? with
    | none => rw [ho] at ht; cases ht
    | some o =>
      rw [h0 o ho]
      rw [ho] at ht
      exact ht
theorem bytes_b {l : List Int} (hb : ∀ z ∈ l, lowK .u8 ≤ z ∧ z ≤ highK .u8) : ∀ z ∈ l, 0 ≤ z ∧ z ≤ 255 := fun x hx => by
  have := hb x hx
  simp [lowK, highK] at this
  exact this
theorem wf_u8 {x : Int} (h : (Lit.int .u8 x).wf = true) : 0 ≤ x ∧ x ≤ 255 := by have := wf_fit h; simpa [lowK, highK] using this
section
variable {H : Type} {enc : TypeId × Value → H} {W : World} {sp : Nat → Bool}
theorem word_el (n : Nat) (cs : List Value) (y : DataW H × List MemPlace) (h : DataW.trod enc Tryd.prog W 0 sp true n 51 cs = some y) : ∃ u : Int, (0 ≤ u ∧ u < 4294967296) ∧ cs = eK .u32 u := by
  obtain ⟨u, h1, h2⟩ := int_elK und_51 n cs y h
  refine ⟨u, ?_, h2⟩
  have := wf_fit h1
  simp [lowK, highK] at this
  omega
theorem open_nat {B : Nat} {v : Value} {d : DataW H} {ps : List MemPlace} (hok : Value.okWide Tryd.prog W .any B 25 v) (h : DataW.Trod enc Tryd.prog W 0 sp true 25 v d ps) :
    ∃ (a : Option Addr) (k N : Nat) (b o c : Nat), v = .agg [.slice a k c].toArray ∧ SlA (View.of W) (eK .u32) 1 a (wI k N) b o ∧ N < Proofs.YtjaeblkgjbncmaaDoor.W ^ k ∧ k ≤ c := by
  obtain ⟨cs, rfl, hl, hf⟩ := open_struct Tryd.underlying25 (by kernel_rfl) (by kernel_rfl) hok h
  obtain ⟨v0, y0, n0, g0, t0⟩ := hf 0 _ rfl
  obtain ⟨a, l, b, o, c, e0, s1, q1, hc, _⟩ := open_cell_row und_23 cellsOf_51 (by decide) (fun n cs y hy => word_el n cs y hy) t0
  subst e0
  have hl1 : cs.length = 1 := hl
  obtain ⟨N, hN, hw⟩ := wI_of (l := l) fun x hx => by
    obtain ⟨i, hi, rfl⟩ := List.mem_iff_getElem.1 hx
    exact q1 i hi
  match cs, hl1 with
  | [p], _ =>
    simp at g0
    subst g0
    rw [hw] at s1
    exact ⟨a, l.length, N, b, o, c, rfl, s1, hN, hc⟩
end
end Go.Proofs.YtjaeblkgjbncmaaDoor
