/-
  EncodeOwn holds: whatever the arguments, the law answers true, and the arguments read afterwards as they read before; the
  listed variables hold what the program's text lays.
  No further condition.
-/
import Derived.Test.YtkkfgeekdaalmaaDoorYot
import Derived.Test.YtkkfgeekdaalmaaDoorRows
import Derived.Test.YtkkfgeekdaalmaaDoorCards
import Derived.Test.YtkkfgeekdaalmaaDoorTie
import Derived.Lay
import Derived.Carry
import Derived.SevenTiedAt
namespace Go.Proofs.YtkkfgeekdaalmaaDoor
set_option maxRecDepth 20000
set_option linter.unusedSimpArgs false
set_option linter.unusedVariables false
open Go Go.Fw Go.ChangeShapes Go.WideShapes Go.ChangeAt Go.RowKit
theorem Tryd.own : ownKnob Tryd.prog.godebug = none := by kernel_rfl
theorem Tryd.laidOut : laidOutB Tryd.prog = true := by kernel_rfl
abbrev laidL : List (String × DataW Unit) := [("math/bits.deBruijn32tab", Rows.laid_math_bits_deBruijn32tab), ("math/bits.deBruijn64tab", Rows.laid_math_bits_deBruijn64tab), ("internal/strconv.uint64pow10", Rows.laid_internal_strconv_uint64pow10)]
def dB32 : List Int := [0, 1, 28, 2, 29, 14, 24, 3, 30, 22, 20, 15, 25, 17, 4, 8, 31, 27, 13, 23, 21, 19, 16, 7, 26, 12, 18, 6, 11, 5, 10, 9]
def dB64 : List Int := [0, 1, 56, 2, 57, 49, 28, 3, 61, 58, 42, 50, 38, 29, 17, 4, 62, 47, 59, 36, 45, 43, 51, 22, 53, 39, 33, 30, 24, 18, 12, 5, 63, 55, 48, 27, 60, 41, 37, 16, 46, 35, 44, 21, 52, 32, 23, 11, 54, 26, 40, 15, 34, 20, 31, 10, 25, 14, 19, 9, 13, 8, 7, 6]
theorem g_32 : Tryd.prog.globalNamed "math/bits.deBruijn32tab" = some 1 := by kernel_rfl
theorem g_64 : Tryd.prog.globalNamed "math/bits.deBruijn64tab" = some 2 := by kernel_rfl
theorem g_p : Tryd.prog.globalNamed "internal/strconv.uint64pow10" = some 0 := by kernel_rfl
theorem gt_32 : (Tryd.prog.globals[1]?).map (·.type) = some 87 := by kernel_rfl
theorem gt_64 : (Tryd.prog.globals[2]?).map (·.type) = some 88 := by kernel_rfl
theorem gt_p : (Tryd.prog.globals[0]?).map (·.type) = some 81 := by kernel_rfl
theorem cellsOf_5 : Tryd.prog.cellsOf 5 = 1 := by kernel_rfl
theorem und_5 : Tryd.prog.underlying 5 = some (.int .u8) := by kernel_rfl
theorem und_57 : Tryd.prog.underlying 57 = some (.int .u64) := by kernel_rfl
theorem und_22 : Tryd.prog.underlying 22 = some (.slice 5) := by kernel_rfl
theorem laid_ok {W : World} (h : laidMetH Tryd.prog laidL W) : LT (View.of W) := by
  obtain ⟨ps, hv, _⟩ := laidMet_of_H (by rfl) h
  obtain ⟨_, q, hq⟩ := laid_arr (xs := dB32) g_32 gt_32 (show Tryd.prog.underlying 87 = some (.array 32 5) by kernel_rfl) und_5 (by kernel_rfl) (by kernel_rfl) hv
  obtain ⟨h2, q2, hq2⟩ := laid_arr (xs := dB64) g_64 gt_64 (show Tryd.prog.underlying 88 = some (.array 64 5) by kernel_rfl) und_5 (by kernel_rfl) (by kernel_rfl) hq
  have ht : Lib.TabIs Tryd.prog W "internal/strconv.uint64pow10" .u64 Lib.pow10Tab := by
    obtain ⟨g', t', cs, fuel, p, q, hg', ht', hvar, hd, _, _⟩ := hq2
    obtain rfl := Option.some.inj (g_p.symm.trans hg')
    obtain rfl := Option.some.inj (gt_p.symm.trans ht')
    have e : (Rows.laid_internal_strconv_uint64pow10 : DataW Unit) = Lib.tabData .u64 Lib.pow10Tab := by rfl
    rw [e] at hd
    unfold Lib.TabIs
    rw [hvar, ← Lib.cells_of_tab (show Tryd.prog.underlying 81 = some (.array 20 57) by kernel_rfl) und_57 (by kernel_rfl) (by kernel_rfl) hd]
  refine ⟨fun w hw => ?_⟩
  · unfold Lib.TabIs World.var? at ht ⊢
    rw [g_p] at ht ⊢
    simp only [Option.bind_some] at ht ⊢
    have h0 : ∀ o, W.heap[0]? = some o → w.heap[0]? = some o := fun o ho => hw 0 o ho
    cases ho : W.heap[0]? with
    | none => rw [ho] at ht; cases ht
    | some o =>
      rw [h0 o ho]
      rw [ho] at ht
      exact ht
theorem bytes_b {l : List Int} (hb : ∀ z ∈ l, lowK .u8 ≤ z ∧ z ≤ highK .u8) : ∀ z ∈ l, 0 ≤ z ∧ z ≤ 255 := fun x hx => by
  have := hb x hx
  simp [lowK, highK] at this
  exact this
section
variable {H : Type} {enc : TypeId × Value → H} {W : World} {sp : Nat → Bool}
theorem open_bytes {B : Nat} {v : Value} {d : DataW H} {ps : List MemPlace} (hok : Value.okWide Tryd.prog W .any B 22 v) (h : DataW.Trod enc Tryd.prog W 0 sp true 22 v d ps) :
    ∃ (a : Option Addr) (l : List Int) (c : Nat), v = .slice a l.length c ∧ BV (View.of W) l a l.length c ∧ c ≤ maxLen := by
  obtain ⟨a, l, b, o, c, h1, h2, h3, h4, h5, _⟩ := open_rowK und_22 und_5 cellsOf_5 hok h
  exact ⟨a, l, c, h1, ⟨⟨b, o, h2⟩, rfl, h4, bytes_b h3⟩, h5⟩
end
end Go.Proofs.YtkkfgeekdaalmaaDoor
namespace Go.Proofs.YtkkfgeekdaalmaaDoor
set_option maxRecDepth 20000
set_option linter.unusedSimpArgs false
set_option linter.unusedVariables false
open Go Go.Fw Go.ChangeShapes Go.WideShapes Go.ChangeAt Go.RowKit
set_option maxRecDepth 100000 in
theorem own_lifted (os : Os) (started : os.Started) (H : Type) (enc : TypeId × Value → H) :
    ReturnsInHanded {} Tryd.checked os 6 .any (fun w args => (Rows.encodeOwnSpec.pre enc Tryd.prog Tryd.f6 [] false w args ∧ laidMetH Tryd.prog laidL w) ∧ sizedMet enc Tryd.prog Tryd.f6 (OpenSpec.ofChange Rows.encodeOwnSpec) false w args)
      (Rows.encodeOwnSpec.post enc Tryd.prog Tryd.f6 false true false false) := by
  refine returnsInHanded_of_change_and (C := Tryd.checked) (X := fun w _ => laidMetH Tryd.prog laidL w) (fun _ _ _ hh h => h.of_heap hh) Tryd.own started (by kernel_rfl) Tryd.func6
    (ChangeSpec.witness_at (enc := enc) (C := Tryd.checked) (os := os) (X := fun w _ => laidMetH Tryd.prog laidL w) false (World.laidAll Tryd.prog os laidL) #[.slice none 0 0] 8 (World.laidAll_os _ _ _) (by kernel_rfl) (by kernel_rfl) (by kernel_rfl) (by kernel_rfl) (by kernel_rfl) (laidMetH_of (by rfl) (laidMet_laidAll _ (by kernel_rfl) (by kernel_rfl)))) ?_
  intro W base args ds gs before hval0 hW _ _ hX _
  have hL := laid_ok hX
  have hval : ∀ (j : Nat) t v, Tryd.f6.params[j]? = some t → args[j]? = some v → Value.okWide Tryd.prog W .any base t v := hval0
  refine law_contract (tb := 4) Tryd.laidOut (by kernel_rfl) (by kernel_rfl) rfl rfl (by kernel_rfl) ?_ W args ds gs before hW ?_
  · intro ds h
    match ds, h with
    | [d1], _ => exact ⟨rfl, rfl, rfl⟩
  · intro p hA0
    have hA : DataW.TrodAll enc Tryd.prog W 0 (fun _ => true) true Tryd.f6.params.toList args.toList ds p := hA0
    rw [Tryd.params6] at hA hval
    obtain ⟨v0, d0, rfl, rfl, h0⟩ := trodAll_one hA
    obtain ⟨a0, l0, c0, rfl, q0, m0⟩ := open_bytes (hval 0 22 v0 rfl rfl) h0
    exact law_own (View.le.refl _) hL q0
theorem own_row : Rows.EncodeOwnSaid :=
  OpenClaim.holds_of_wide 6 Tryd.f6 rfl rfl rfl rfl rfl rfl rfl ⟨rfl, rfl, rfl, rfl, rfl⟩ rfl rfl rfl rfl rfl (by kernel_rfl) Tryd.func6 (by kernel_rfl)
    (of_decide_eq_true (by kernel_rfl)) (by unfold Func.isWrapper; rw [if_neg (of_decide_eq_false (by kernel_rfl))]; exact ⟨rfl, rfl⟩)
    (fun os started H enc _ => own_lifted os started H enc)
theorem own_holds : Rows.EncodeOwnCardSaid :=
  Claim7.holds_tied_plain_at .later [] [.data, .data, .data] true (true, "4370ec11e90c938894e1fd964864e385fb1b668d90bca99edf7b3b62276c35cd") false
    own_row (fun _ h => by cases h) (by kernel_rfl) (fun _ h => by cases h) encodeOwn_row_tie rfl ⟨rfl, rfl⟩ (by kernel_rfl) rfl
    (fun f fn hf hfn => by
      obtain rfl : f = 6 := Option.some.inj ((show Tryd.prog.funcNamed "specie/specielaw07.EncodeOwn" = some 6 by kernel_rfl).symm.trans hf) |>.symm
      obtain rfl : fn = Tryd.f6 := (Option.some.inj (Tryd.func6.symm.trans hfn)).symm
      exact ⟨by kernel_rfl, fun j t ht => by
        rw [Tryd.params6] at ht
        have h1 : [22].all (fun t => !Tryd.prog.wantsStandIn t) = true := by kernel_rfl
        have h2 : t ∈ [22] := by
          have := List.mem_of_getElem? (l := [22]) (i := j) (by simpa using ht)
          exact this
        have h3 := List.all_eq_true.1 h1 t h2
        rw [Bool.not_eq_true'] at h3
        exact h3⟩)
    (by kernel_rfl)
end Go.Proofs.YtkkfgeekdaalmaaDoor
