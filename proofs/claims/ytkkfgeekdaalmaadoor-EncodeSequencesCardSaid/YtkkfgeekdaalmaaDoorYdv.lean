/-
  EncodeSequences holds: whatever the arguments, the law answers true, and the arguments read afterwards as they read before; the
  listed variables hold what the program's text lays.
  No further condition.
-/
import Derived.Test.YtkkfgeekdaalmaaDoorYdu
import Derived.Test.YtkkfgeekdaalmaaDoorRows
import Derived.Test.YtkkfgeekdaalmaaDoorCards
import Derived.Test.YtkkfgeekdaalmaaDoorTie
import Derived.Lay
import Derived.Carry
import Derived.SevenTiedAt
namespace Go.Proofs.YtkkfgeekdaalmaaDoor
set_option maxRecDepth 20000
set_option linter.unusedSimpArgs false
set_option linter.unusedVariables false
open Go Go.Fw Go.ChangeShapes Go.WideShapes Go.ChangeAt Go.RowKit
theorem Tryd.own : ownKnob Tryd.prog.godebug = none := by kernel_rfl
theorem Tryd.laidOut : laidOutB Tryd.prog = true := by kernel_rfl
abbrev laidL : List (String × DataW Unit) := [("math/bits.deBruijn32tab", Rows.laid_math_bits_deBruijn32tab), ("math/bits.deBruijn64tab", Rows.laid_math_bits_deBruijn64tab), ("internal/strconv.uint64pow10", Rows.laid_internal_strconv_uint64pow10)]
def dB32 : List Int := [0, 1, 28, 2, 29, 14, 24, 3, 30, 22, 20, 15, 25, 17, 4, 8, 31, 27, 13, 23, 21, 19, 16, 7, 26, 12, 18, 6, 11, 5, 10, 9]
def dB64 : List Int := [0, 1, 56, 2, 57, 49, 28, 3, 61, 58, 42, 50, 38, 29, 17, 4, 62, 47, 59, 36, 45, 43, 51, 22, 53, 39, 33, 30, 24, 18, 12, 5, 63, 55, 48, 27, 60, 41, 37, 16, 46, 35, 44, 21, 52, 32, 23, 11, 54, 26, 40, 15, 34, 20, 31, 10, 25, 14, 19, 9, 13, 8, 7, 6]
theorem g_32 : Tryd.prog.globalNamed "math/bits.deBruijn32tab" = some 1 := by kernel_rfl
theorem g_64 : Tryd.prog.globalNamed "math/bits.deBruijn64tab" = some 2 := by kernel_rfl
theorem g_p : Tryd.prog.globalNamed "internal/strconv.uint64pow10" = some 0 := by kernel_rfl
theorem gt_32 : (Tryd.prog.globals[1]?).map (·.type) = some 87 := by kernel_rfl
theorem gt_64 : (Tryd.prog.globals[2]?).map (·.type) = some 88 := by kernel_rfl
theorem gt_p : (Tryd.prog.globals[0]?).map (·.type) = some 81 := by kernel_rfl
theorem cellsOf_5 : Tryd.prog.cellsOf 5 = 1 := by kernel_rfl
theorem und_5 : Tryd.prog.underlying 5 = some (.int .u8) := by kernel_rfl
theorem und_57 : Tryd.prog.underlying 57 = some (.int .u64) := by kernel_rfl
theorem und_22 : Tryd.prog.underlying 22 = some (.slice 5) := by kernel_rfl
theorem laid_ok {W : World} (h : laidMetH Tryd.prog laidL W) : LT (View.of W) := by
  obtain ⟨ps, hv, _⟩ := laidMet_of_H (by rfl) h
  obtain ⟨_, q, hq⟩ := laid_arr (xs := dB32) g_32 gt_32 (show Tryd.prog.underlying 87 = some (.array 32 5) by kernel_rfl) und_5 (by kernel_rfl) (by kernel_rfl) hv
  obtain ⟨h2, q2, hq2⟩ := laid_arr (xs := dB64) g_64 gt_64 (show Tryd.prog.underlying 88 = some (.array 64 5) by kernel_rfl) und_5 (by kernel_rfl) (by kernel_rfl) hq
  have ht : Lib.TabIs Tryd.prog W "internal/strconv.uint64pow10" .u64 Lib.pow10Tab := by
    obtain ⟨g', t', cs, fuel, p, q, hg', ht', hvar, hd, _, _⟩ := hq2
    obtain rfl := Option.some.inj (g_p.symm.trans hg')
    obtain rfl := Option.some.inj (gt_p.symm.trans ht')
    have e : (Rows.laid_internal_strconv_uint64pow10 : DataW Unit) = Lib.tabData .u64 Lib.pow10Tab := by rfl
    rw [e] at hd
    unfold Lib.TabIs
    rw [hvar, ← Lib.cells_of_tab (show Tryd.prog.underlying 81 = some (.array 20 57) by kernel_rfl) und_57 (by kernel_rfl) (by kernel_rfl) hd]
  refine ⟨fun w hw => ?_⟩
  · unfold Lib.TabIs World.var? at ht ⊢
    rw [g_p] at ht ⊢
    simp only [Option.bind_some] at ht ⊢
    have h0 : ∀ o, W.heap[0]? = some o → w.heap[0]? = some o := fun o ho => hw 0 o ho
    cases ho : W.heap[0]? with
    | none => rw [ho] at ht; cases ht
    | some o =>
      rw [h0 o ho]
      rw [ho] at ht
      exact ht
section
variable {H : Type} {enc : TypeId × Value → H} {W : World} {sp : Nat → Bool}
end
end Go.Proofs.YtkkfgeekdaalmaaDoor
namespace Go.Proofs.YtkkfgeekdaalmaaDoor
set_option maxRecDepth 20000
set_option linter.unusedSimpArgs false
set_option linter.unusedVariables false
open Go Go.Fw Go.ChangeShapes Go.WideShapes Go.ChangeAt Go.RowKit
theorem und_3 : Tryd.prog.underlying 3 = some (.int .i64) := by kernel_rfl
theorem und_23 : Tryd.prog.underlying 23 = some (.slice 25) := by kernel_rfl
theorem cellsOf_25 : Tryd.prog.cellsOf 25 = 4 := by kernel_rfl
theorem bytesOf_5 : Tryd.prog.bytesOf 5 = 1 := by kernel_rfl
theorem bytesOf_25 : Tryd.prog.bytesOf 25 = 64 := by kernel_rfl
theorem reach47 : reachBytes ≤ 140737488355328 := by decide
theorem wf_i64 {x : Int} (h : (Lit.int .i64 x).wf = true) : -9223372036854775808 ≤ x ∧ x ≤ 9223372036854775807 := by have := wf_fit h; simpa [lowK, highK] using this
section
variable {H : Type} {enc : TypeId × Value → H} {W : World} {sp : Nat → Bool}
theorem byte_el (n : Nat) (cs : List Value) (y : DataW H × List MemPlace) (h : DataW.trod enc Tryd.prog W 0 sp true n 5 cs = some y) : ∃ u : Int, (0 ≤ u ∧ u ≤ 255) ∧ cs = eK .u8 u := by
  obtain ⟨u, h1, h2⟩ := int_elK und_5 n cs y h
  have := wf_fit h1
  simp [lowK, highK] at this
  exact ⟨u, this, h2⟩
/-- The head and the row of parts of an item. -/
theorem open_head {α : Type} {encl : α → List Value} {Q : α → Prop} (n : Nat) (cs : List Value) (y : DataW H × List MemPlace) (h : DataW.trod enc Tryd.prog W 0 sp true n 25 cs = some y) (hw : light Tryd.prog 25 y.1)
    (hel : ∀ n cs (y : DataW H × List MemPlace), DataW.trod enc Tryd.prog W 0 sp true n 25 cs = some y → light Tryd.prog 25 y.1 → ∃ u : α, Q u ∧ cs = encl u) :
    ∃ (h : Hd) (L : List α), cs = [.int .i64 h.k, .int .i64 h.n, .slice h.B.a h.B.xs.length h.B.c, .slice h.La h.m h.Lc] ∧ HdV (View.of W) h ∧ (-9223372036854775808 ≤ h.n ∧ h.n ≤ 9223372036854775807) ∧ L.length = h.m ∧ SlA (View.of W) encl 4 h.La L h.Lb h.Lo ∧ ∀ u ∈ L, Q u := by
  obtain ⟨hl, hf⟩ := open_fields_w Tryd.underlying25 (by kernel_rfl) (by kernel_rfl) h hw
  have hl4 : cs.length = 4 := hl
  obtain ⟨v0, y0, n0, g0, t0, _⟩ := hf 0 _ rfl
  obtain ⟨v1, y1, n1, g1, t1, _⟩ := hf 1 _ rfl
  obtain ⟨v2, y2, n2, g2, t2, w2⟩ := hf 2 _ rfl
  obtain ⟨v3, y3, n3, g3, t3, w3⟩ := hf 3 _ rfl
  obtain ⟨k, _, e0⟩ := int_elK und_3 _ _ _ t0
  obtain ⟨m, r1, e1⟩ := int_elK und_3 _ _ _ t1
  obtain ⟨a, l, b, o, c, e2, s2, q2, _, b2⟩ := open_cell_row_w und_22 cellsOf_5 (by decide) (fun n cs y hy _ => byte_el n cs y hy) t2 w2
  obtain ⟨La, L, Lb, Lo, Lc, e3, s3, q3, _, b3⟩ := open_cell_row_w und_23 cellsOf_25 (by decide) hel t3 w3
  have e0 : v0 = .int .i64 k := by simpa [eK] using e0
  have e1 : v1 = .int .i64 m := by simpa [eK] using e1
  rw [bytesOf_5] at b2
  rw [bytesOf_25] at b3
  have hr := reach47
  subst e0 e1 e2 e3
  match cs, hl4 with
  | [p0, p1, p2, p3], _ =>
    simp at g0 g1 g2 g3
    subst g0 g1 g2 g3
    refine ⟨⟨k, m, ⟨l, a, b, o, c⟩, La, Lb, Lo, Lc, L.length⟩, L, rfl, ⟨s2, fun x hx => ?_, by dsimp only; omega, by dsimp only; omega⟩, wf_i64 r1, rfl, s3, fun u hu => ?_⟩
    · obtain ⟨i, hi, rfl⟩ := List.mem_iff_getElem.1 hx
      exact q2 i hi
    · obtain ⟨i, hi, rfl⟩ := List.mem_iff_getElem.1 hu
      exact q3 i hi
theorem open_it : ∀ (d : Nat) (n : Nat) (cs : List Value) (y : DataW H × List MemPlace), DataW.trod enc Tryd.prog W 0 sp true n 25 cs = some y → light Tryd.prog 25 y.1 → ∃ x : It d, (ItV (View.of W) d x ∧ rgI d x) ∧ cs = x.enc
  | 0, n, cs, y, h, hw => by
    obtain ⟨hd, L, e, hv, hr, _, _, _⟩ := open_head (α := List Value) (encl := id) (Q := fun _ => True) n cs y h hw (fun n cs y _ _ => ⟨cs, trivial, rfl⟩)
    exact ⟨hd, ⟨hv, hr⟩, e⟩
  | d + 1, n, cs, y, h, hw => by
    obtain ⟨hd, L, e, hv, hr, hl, hs, hq⟩ := open_head (α := It d) (encl := It.enc) (Q := fun x => ItV (View.of W) d x ∧ rgI d x) n cs y h hw (fun n cs y h hw => open_it d n cs y h hw)
    exact ⟨(hd, L), ⟨⟨hv, hl, hs, fun x hx => (hq x hx).1⟩, hr, fun x hx => (hq x hx).2⟩, e⟩
end
end Go.Proofs.YtkkfgeekdaalmaaDoor
namespace Go.Proofs.YtkkfgeekdaalmaaDoor
set_option maxRecDepth 20000
set_option linter.unusedSimpArgs false
set_option linter.unusedVariables false
open Go Go.Fw Go.ChangeShapes Go.WideShapes Go.ChangeAt Go.RowKit
section
variable {H : Type} {enc : TypeId × Value → H} {W : World} {sp : Nat → Bool}
theorem open_items (D : Nat) {B : Nat} {v : Value} {d : DataW H} {ps : List MemPlace} (hok : Value.okWide Tryd.prog W .any B 23 v) (h : DataW.Trod enc Tryd.prog W 0 sp true 23 v d ps) (hw : light Tryd.prog 23 d) :
    ∃ (a : Option Addr) (L : List (It D)) (b o c : Nat), v = .slice a L.length c ∧ SlA (View.of W) It.enc 4 a L b o ∧ (∀ x ∈ L, ItV (View.of W) D x) ∧ L.length ≤ 140737488355328 := by
  obtain ⟨a0, len, cap, rfl⟩ := okWide_slice und_23 hok
  obtain ⟨fuel, hf⟩ := h
  obtain ⟨a, L, b, o, c, e, s, q, _, hb⟩ := open_cell_row_w (encl := It.enc) (Q := fun x : It D => ItV (View.of W) D x ∧ rgI D x) und_23 cellsOf_25 (by decide) (fun n cs y h hw => open_it D n cs y h hw) hf hw
  rw [bytesOf_25] at hb
  have hr := reach47
  refine ⟨a, L, b, o, c, e, s, fun x hx => ?_, by omega⟩
  obtain ⟨i, hi, rfl⟩ := List.mem_iff_getElem.1 hx
  exact (q i hi).1
end
end Go.Proofs.YtkkfgeekdaalmaaDoor
namespace Go.Proofs.YtkkfgeekdaalmaaDoor
set_option maxRecDepth 20000
set_option linter.unusedSimpArgs false
set_option linter.unusedVariables false
open Go Go.Fw Go.ChangeShapes Go.WideShapes Go.ChangeAt Go.RowKit
set_option maxRecDepth 100000 in
theorem sequences_lifted (os : Os) (started : os.Started) (H : Type) (enc : TypeId × Value → H) :
    ReturnsInHanded {} Tryd.checked os 5 .any (fun w args => (Rows.encodeSequencesSpec.pre enc Tryd.prog Tryd.f5 [] false w args ∧ laidMetH Tryd.prog laidL w) ∧ sizedMet enc Tryd.prog Tryd.f5 (OpenSpec.ofChange Rows.encodeSequencesSpec) false w args)
      (Rows.encodeSequencesSpec.post enc Tryd.prog Tryd.f5 false true false false) := by
  refine returnsInHanded_of_change_and (C := Tryd.checked) (X := fun w _ => laidMetH Tryd.prog laidL w) (fun _ _ _ hh h => h.of_heap hh) Tryd.own started (by kernel_rfl) Tryd.func5
    (ChangeSpec.witness_at (enc := enc) (C := Tryd.checked) (os := os) (X := fun w _ => laidMetH Tryd.prog laidL w) false (World.laidAll Tryd.prog os laidL) #[.slice none 0 0] 8 (World.laidAll_os _ _ _) (by kernel_rfl) (by kernel_rfl) (by kernel_rfl) (by kernel_rfl) (by kernel_rfl) (laidMetH_of (by rfl) (laidMet_laidAll _ (by kernel_rfl) (by kernel_rfl)))) ?_
  intro W base args ds gs before hval0 hW _ hz hX _
  have hL := laid_ok hX
  have hval : ∀ (j : Nat) t v, Tryd.f5.params[j]? = some t → args[j]? = some v → Value.okWide Tryd.prog W .any base t v := hval0
  refine law_contract (tb := 4) Tryd.laidOut (by kernel_rfl) (by kernel_rfl) rfl rfl (by kernel_rfl) ?_ W args ds gs before hW ?_
  · intro ds h
    match ds, h with
    | [d1], _ => exact ⟨rfl, rfl, rfl⟩
  · intro p hA0
    have hA : DataW.TrodAll enc Tryd.prog W 0 (fun _ => true) true Tryd.f5.params.toList args.toList ds p := hA0
    rw [Tryd.params5] at hA hval
    obtain ⟨v0, d0, rfl, rfl, h0⟩ := trodAll_one hA
    have w0 := light_arg (j := 0) (t := 23) hz rfl rfl
    obtain ⟨a0, l0, b0, o0, c0, rfl, s0, q0, m0⟩ := open_items 30 (hval 0 23 v0 rfl rfl) h0 w0
    exact law_seq (View.le.refl _) hL rfl m0 s0 q0
theorem sequences_row : Rows.EncodeSequencesSaid :=
  OpenClaim.holds_of_wide 5 Tryd.f5 rfl rfl rfl rfl rfl rfl rfl ⟨rfl, rfl, rfl, rfl, rfl⟩ rfl rfl rfl rfl rfl (by kernel_rfl) Tryd.func5 (by kernel_rfl)
    (of_decide_eq_true (by kernel_rfl)) (by unfold Func.isWrapper; rw [if_neg (of_decide_eq_false (by kernel_rfl))]; exact ⟨rfl, rfl⟩)
    (fun os started H enc _ => sequences_lifted os started H enc)
theorem sequences_holds : Rows.EncodeSequencesCardSaid :=
  Claim7.holds_tied_plain_at .later [] [.data, .data, .data] true (true, "4370ec11e90c938894e1fd964864e385fb1b668d90bca99edf7b3b62276c35cd") false
    sequences_row (fun _ h => by cases h) (by kernel_rfl) (fun _ h => by cases h) encodeSequences_row_tie rfl ⟨rfl, rfl⟩ (by kernel_rfl) rfl
    (fun f fn hf hfn => by
      obtain rfl : f = 5 := Option.some.inj ((show Tryd.prog.funcNamed "specie/specielaw07.EncodeSequences" = some 5 by kernel_rfl).symm.trans hf) |>.symm
      obtain rfl : fn = Tryd.f5 := (Option.some.inj (Tryd.func5.symm.trans hfn)).symm
      exact ⟨by kernel_rfl, fun j t ht => by
        rw [Tryd.params5] at ht
        have h1 : [23].all (fun t => !Tryd.prog.wantsStandIn t) = true := by kernel_rfl
        have h2 : t ∈ [23] := by
          have := List.mem_of_getElem? (l := [23]) (i := j) (by simpa using ht)
          exact this
        have h3 := List.all_eq_true.1 h1 t h2
        rw [Bool.not_eq_true'] at h3
        exact h3⟩)
    (by kernel_rfl)
end Go.Proofs.YtkkfgeekdaalmaaDoor
