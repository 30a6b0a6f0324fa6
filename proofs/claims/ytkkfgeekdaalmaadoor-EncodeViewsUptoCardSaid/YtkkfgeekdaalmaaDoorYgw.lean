/-
  Texts joined: PC PD PF.
-/
import Derived.Test.YtkkfgeekdaalmaaDoorYgv
import Derived.Test.YtkkfgeekdaalmaaDoorRows
import Derived.Test.YtkkfgeekdaalmaaDoorCards
import Derived.Test.YtkkfgeekdaalmaaDoorTie
import Derived.Lay
import Derived.Carry
import Derived.SevenTiedAt
namespace Go.Proofs.YtkkfgeekdaalmaaDoor
set_option maxRecDepth 20000
set_option linter.unusedSimpArgs false
set_option linter.unusedVariables false
open Go Go.Fw Go.ChangeShapes Go.WideShapes Go.ChangeAt Go.RowKit
theorem Tryd.own : ownKnob Tryd.prog.godebug = none := by kernel_rfl
theorem Tryd.laidOut : laidOutB Tryd.prog = true := by kernel_rfl
abbrev laidL : List (String × DataW Unit) := [("math/bits.deBruijn32tab", Rows.laid_math_bits_deBruijn32tab), ("math/bits.deBruijn64tab", Rows.laid_math_bits_deBruijn64tab), ("internal/strconv.uint64pow10", Rows.laid_internal_strconv_uint64pow10)]
def dB32 : List Int := [0, 1, 28, 2, 29, 14, 24, 3, 30, 22, 20, 15, 25, 17, 4, 8, 31, 27, 13, 23, 21, 19, 16, 7, 26, 12, 18, 6, 11, 5, 10, 9]
def dB64 : List Int := [0, 1, 56, 2, 57, 49, 28, 3, 61, 58, 42, 50, 38, 29, 17, 4, 62, 47, 59, 36, 45, 43, 51, 22, 53, 39, 33, 30, 24, 18, 12, 5, 63, 55, 48, 27, 60, 41, 37, 16, 46, 35, 44, 21, 52, 32, 23, 11, 54, 26, 40, 15, 34, 20, 31, 10, 25, 14, 19, 9, 13, 8, 7, 6]
theorem g_32 : Tryd.prog.globalNamed "math/bits.deBruijn32tab" = some 1 := by kernel_rfl
theorem g_64 : Tryd.prog.globalNamed "math/bits.deBruijn64tab" = some 2 := by kernel_rfl
theorem g_p : Tryd.prog.globalNamed "internal/strconv.uint64pow10" = some 0 := by kernel_rfl
theorem gt_32 : (Tryd.prog.globals[1]?).map (·.type) = some 87 := by kernel_rfl
theorem gt_64 : (Tryd.prog.globals[2]?).map (·.type) = some 88 := by kernel_rfl
theorem gt_p : (Tryd.prog.globals[0]?).map (·.type) = some 81 := by kernel_rfl
theorem cellsOf_5 : Tryd.prog.cellsOf 5 = 1 := by kernel_rfl
theorem und_5 : Tryd.prog.underlying 5 = some (.int .u8) := by kernel_rfl
theorem und_57 : Tryd.prog.underlying 57 = some (.int .u64) := by kernel_rfl
theorem und_22 : Tryd.prog.underlying 22 = some (.slice 5) := by kernel_rfl
theorem laid_ok {W : World} (h : laidMetH Tryd.prog laidL W) : LT (View.of W) := by
  obtain ⟨ps, hv, _⟩ := laidMet_of_H (by rfl) h
  obtain ⟨_, q, hq⟩ := laid_arr (xs := dB32) g_32 gt_32 (show Tryd.prog.underlying 87 = some (.array 32 5) by kernel_rfl) und_5 (by kernel_rfl) (by kernel_rfl) hv
  obtain ⟨h2, q2, hq2⟩ := laid_arr (xs := dB64) g_64 gt_64 (show Tryd.prog.underlying 88 = some (.array 64 5) by kernel_rfl) und_5 (by kernel_rfl) (by kernel_rfl) hq
  have ht : Lib.TabIs Tryd.prog W "internal/strconv.uint64pow10" .u64 Lib.pow10Tab := by
    obtain ⟨g', t', cs, fuel, p, q, hg', ht', hvar, hd, _, _⟩ := hq2
    obtain rfl := Option.some.inj (g_p.symm.trans hg')
    obtain rfl := Option.some.inj (gt_p.symm.trans ht')
    have e : (Rows.laid_internal_strconv_uint64pow10 : DataW Unit) = Lib.tabData .u64 Lib.pow10Tab := by rfl
    rw [e] at hd
    unfold Lib.TabIs
    rw [hvar, ← Lib.cells_of_tab (show Tryd.prog.underlying 81 = some (.array 20 57) by kernel_rfl) und_57 (by kernel_rfl) (by kernel_rfl) hd]
  refine ⟨fun w hw => ?_⟩
  · unfold Lib.TabIs World.var? at ht ⊢
    rw [g_p] at ht ⊢
    simp only [Option.bind_some] at ht ⊢
    have h0 : ∀ o, W.heap[0]? = some o → w.heap[0]? = some o := fun o ho => hw 0 o ho
    cases ho : W.heap[0]? with
    | none => rw [ho] at ht; cases ht
    | some o =>
      rw [h0 o ho]
      rw [ho] at ht
      exact ht
section
variable {H : Type} {enc : TypeId × Value → H} {W : World} {sp : Nat → Bool}
end
end Go.Proofs.YtkkfgeekdaalmaaDoor
namespace Go.Proofs.YtkkfgeekdaalmaaDoor
set_option maxRecDepth 20000
set_option linter.unusedSimpArgs false
set_option linter.unusedVariables false
open Go Go.Fw Go.ChangeShapes Go.WideShapes Go.ChangeAt Go.RowKit
theorem agg_inj {a b : List Value} (h : Value.agg a.toArray = Value.agg b.toArray) : a = b := by
  injection h with h
  have := congrArg Array.toList h
  simpa using this
theorem und_3 : Tryd.prog.underlying 3 = some (.int .i64) := by kernel_rfl
theorem und_23 : Tryd.prog.underlying 23 = some (.slice 25) := by kernel_rfl
theorem cellsOf_25 : Tryd.prog.cellsOf 25 = 4 := by kernel_rfl
theorem bytesOf_5 : Tryd.prog.bytesOf 5 = 1 := by kernel_rfl
theorem bytesOf_25 : Tryd.prog.bytesOf 25 = 64 := by kernel_rfl
theorem reach47 : reachBytes ≤ 140737488355328 := by decide
theorem wf_i64 {x : Int} (h : (Lit.int .i64 x).wf = true) : -9223372036854775808 ≤ x ∧ x ≤ 9223372036854775807 := by have := wf_fit h; simpa [lowK, highK] using this
section
variable {H : Type} {enc : TypeId × Value → H} {W : World} {sp : Nat → Bool}
theorem byte_el (n : Nat) (cs : List Value) (y : DataW H × List MemPlace) (h : DataW.trod enc Tryd.prog W 0 sp true n 5 cs = some y) : ∃ u : Int, (0 ≤ u ∧ u ≤ 255) ∧ cs = eK .u8 u := by
  obtain ⟨u, h1, h2⟩ := int_elK und_5 n cs y h
  have := wf_fit h1
  simp [lowK, highK] at this
  exact ⟨u, this, h2⟩
/-- The head and the row of parts of an item. -/
theorem open_head {α : Type} {encl : α → List Value} {Q : α → Prop} (n : Nat) (cs : List Value) (y : DataW H × List MemPlace) (h : DataW.trod enc Tryd.prog W 0 sp true n 25 cs = some y) (hw : light Tryd.prog 25 y.1)
    (hel : ∀ n cs (y : DataW H × List MemPlace), DataW.trod enc Tryd.prog W 0 sp true n 25 cs = some y → light Tryd.prog 25 y.1 → ∃ u : α, Q u ∧ cs = encl u) :
    ∃ (h : Hd) (L : List α), cs = [.int .i64 h.k, .int .i64 h.n, .slice h.B.a h.B.xs.length h.B.c, .slice h.La h.m h.Lc] ∧ HdV (View.of W) h ∧ (-9223372036854775808 ≤ h.n ∧ h.n ≤ 9223372036854775807) ∧ L.length = h.m ∧ SlA (View.of W) encl 4 h.La L h.Lb h.Lo ∧ ∀ u ∈ L, Q u := by
  obtain ⟨hl, hf⟩ := open_fields_w Tryd.underlying25 (by kernel_rfl) (by kernel_rfl) h hw
  have hl4 : cs.length = 4 := hl
  obtain ⟨v0, y0, n0, g0, t0, _⟩ := hf 0 _ rfl
  obtain ⟨v1, y1, n1, g1, t1, _⟩ := hf 1 _ rfl
  obtain ⟨v2, y2, n2, g2, t2, w2⟩ := hf 2 _ rfl
  obtain ⟨v3, y3, n3, g3, t3, w3⟩ := hf 3 _ rfl
  obtain ⟨k, _, e0⟩ := int_elK und_3 _ _ _ t0
  obtain ⟨m, r1, e1⟩ := int_elK und_3 _ _ _ t1
  obtain ⟨a, l, b, o, c, e2, s2, q2, _, b2⟩ := open_cell_row_w und_22 cellsOf_5 (by decide) (fun n cs y hy _ => byte_el n cs y hy) t2 w2
  obtain ⟨La, L, Lb, Lo, Lc, e3, s3, q3, _, b3⟩ := open_cell_row_w und_23 cellsOf_25 (by decide) hel t3 w3
  have e0 : v0 = .int .i64 k := by simpa [eK] using e0
  have e1 : v1 = .int .i64 m := by simpa [eK] using e1
  rw [bytesOf_5] at b2
  rw [bytesOf_25] at b3
  have hr := reach47
  subst e0 e1 e2 e3
  match cs, hl4 with
  | [p0, p1, p2, p3], _ =>
    simp at g0 g1 g2 g3
    subst g0 g1 g2 g3
    refine ⟨⟨k, m, ⟨l, a, b, o, c⟩, La, Lb, Lo, Lc, L.length⟩, L, rfl, ⟨s2, fun x hx => ?_, by dsimp only; omega, by dsimp only; omega⟩, wf_i64 r1, rfl, s3, fun u hu => ?_⟩
    · obtain ⟨i, hi, rfl⟩ := List.mem_iff_getElem.1 hx
      exact q2 i hi
    · obtain ⟨i, hi, rfl⟩ := List.mem_iff_getElem.1 hu
      exact q3 i hi
theorem open_it : ∀ (d : Nat) (n : Nat) (cs : List Value) (y : DataW H × List MemPlace), DataW.trod enc Tryd.prog W 0 sp true n 25 cs = some y → light Tryd.prog 25 y.1 → ∃ x : It d, (ItV (View.of W) d x ∧ rgI d x) ∧ cs = x.enc
  | 0, n, cs, y, h, hw => by
    obtain ⟨hd, L, e, hv, hr, _, _, _⟩ := open_head (α := List Value) (encl := id) (Q := fun _ => True) n cs y h hw (fun n cs y _ _ => ⟨cs, trivial, rfl⟩)
    exact ⟨hd, ⟨hv, hr⟩, e⟩
  | d + 1, n, cs, y, h, hw => by
    obtain ⟨hd, L, e, hv, hr, hl, hs, hq⟩ := open_head (α := It d) (encl := It.enc) (Q := fun x => ItV (View.of W) d x ∧ rgI d x) n cs y h hw (fun n cs y h hw => open_it d n cs y h hw)
    exact ⟨(hd, L), ⟨⟨hv, hl, hs, fun x hx => (hq x hx).1⟩, hr, fun x hx => (hq x hx).2⟩, e⟩
theorem open_item (D : Nat) {B : Nat} {v : Value} {d : DataW H} {ps : List MemPlace} (hok : Value.okWide Tryd.prog W .any B 25 v) (h : DataW.Trod enc Tryd.prog W 0 sp true 25 v d ps) (hw : light Tryd.prog 25 d) :
    ∃ x : It D, v = .agg x.enc.toArray ∧ ItV (View.of W) D x ∧ rgI D x := by
  obtain ⟨cs, rfl, hsz⟩ := okWide_struct Tryd.underlying25 hok
  obtain ⟨fuel, hf⟩ := h
  obtain ⟨x, ⟨h1, h2⟩, h3⟩ := open_it D fuel cs.toList (d, ps) (by simpa [Value.cells] using hf) hw
  exact ⟨x, by rw [← h3], h1, h2⟩
end
end Go.Proofs.YtkkfgeekdaalmaaDoor
namespace Go.Proofs.YtkkfgeekdaalmaaDoor
set_option maxRecDepth 20000
set_option linter.unusedSimpArgs false
set_option linter.unusedVariables false
open Go Go.Fw Go.ChangeShapes Go.WideShapes Go.ChangeAt Go.RowKit
section
variable {H : Type} {enc : TypeId × Value → H} {W : World} {sp : Nat → Bool}
theorem bulk_map {α : Type} {f : α → Nat} (D : Nat → DataW H) : ∀ (l : List α), (∀ i (h : i < l.length), f l[i] ≤ Rows.uptoBulk (D i)) → (l.map f).sum ≤ Rows.uptoBulkAll ((List.range l.length).map D) := by
  have key : ∀ (l : List α) (k : Nat), (∀ i (h : i < l.length), f l[i] ≤ Rows.uptoBulk (D (k + i))) → (l.map f).sum ≤ Rows.uptoBulkAll ((List.range' k l.length).map D) := by
    intro l
    induction l with
    | nil => intro k _; simp
    | cons a l ih =>
      intro k h
      rw [List.length_cons, List.range'_succ, List.map_cons, List.map_cons, List.sum_cons]
      simp only [Rows.uptoBulkAll]
      have h0 := h 0 (by simp)
      have h1 := ih (k + 1) (fun i hi => by
        have := h (i + 1) (by simpa using hi)
        rw [show k + (i + 1) = k + 1 + i by omega] at this
        simpa using this)
      simp only [List.getElem_cons_zero, Nat.add_zero] at h0
      omega
  intro l h
  rw [List.range_eq_range']
  exact key l 0 (fun i hi => by rw [Nat.zero_add]; exact h i hi)
theorem bulk_len (D : Nat → DataW H) (n : Nat) : n ≤ Rows.uptoBulkAll ((List.range n).map D) := by
  have one : ∀ d : DataW H, 1 ≤ Rows.uptoBulk d := fun d => by
    cases d with
    | lit l => cases l <;> simp [Rows.uptoBulk]
    | nil => simp [Rows.uptoBulk]
    | ptr d => simp [Rows.uptoBulk]
    | slice elems spare => simp [Rows.uptoBulk]
    | agg parts => simp [Rows.uptoBulk]
    | iface t d => simp [Rows.uptoBulk]
    | map entries => simp [Rows.uptoBulk]
    | held h => simp [Rows.uptoBulk]
  have := bulk_map D (l := List.range n) (f := fun _ => 1) (fun i _ => one _)
  have e : ∀ n, ((List.range n).map fun _ => 1).sum = n := fun n => by
    induction n with
    | zero => rfl
    | succ n ih => rw [List.range_succ, List.map_append, List.sum_append, ih]; rfl
  rw [e, List.length_range] at this
  exact this
/-- The head and the row of parts of an item, with the bulk. -/
theorem open_head_d {α : Type} {encl : α → List Value} {Q : α → Prop} {f : α → Nat} (n : Nat) (cs : List Value) (y : DataW H × List MemPlace) (h : DataW.trod enc Tryd.prog W 0 sp true n 25 cs = some y) (hw : light Tryd.prog 25 y.1)
    (hel : ∀ n cs (y : DataW H × List MemPlace), DataW.trod enc Tryd.prog W 0 sp true n 25 cs = some y → light Tryd.prog 25 y.1 → ∃ u : α, (Q u ∧ f u ≤ Rows.uptoBulk y.1) ∧ cs = encl u) :
    ∃ (h : Hd) (L : List α), cs = [.int .i64 h.k, .int .i64 h.n, .slice h.B.a h.B.xs.length h.B.c, .slice h.La h.m h.Lc] ∧ HdV (View.of W) h ∧ (-9223372036854775808 ≤ h.n ∧ h.n ≤ 9223372036854775807) ∧ L.length = h.m ∧ SlA (View.of W) encl 4 h.La L h.Lb h.Lo ∧ (∀ u ∈ L, Q u) ∧ 5 + h.B.xs.length + (L.map f).sum ≤ Rows.uptoBulk y.1 := by
  obtain ⟨hl, parts, hpe, hpl, hf⟩ := open_fields_d Tryd.underlying25 (by kernel_rfl) (by kernel_rfl) h hw
  have hl4 : cs.length = 4 := hl
  have hp4 : parts.length = 4 := hpl
  obtain ⟨v0, y0, n0, g0, p0, t0, _⟩ := hf 0 _ rfl
  obtain ⟨v1, y1, n1, g1, p1, t1, _⟩ := hf 1 _ rfl
  obtain ⟨v2, y2, n2, g2, p2, t2, w2⟩ := hf 2 _ rfl
  obtain ⟨v3, y3, n3, g3, p3, t3, w3⟩ := hf 3 _ rfl
  obtain ⟨k, _, e0⟩ := int_elK und_3 _ _ _ t0
  obtain ⟨m, r1, e1⟩ := int_elK und_3 _ _ _ t1
  obtain ⟨a, l, b, o, c, D2, e2, s2, q2, _, b2, z2⟩ := open_cell_row_d (Q := fun u _ => 0 ≤ u ∧ u ≤ 255) und_22 cellsOf_5 (by decide) (fun n cs y hy _ => byte_el n cs y hy) t2 w2
  obtain ⟨La, L, Lb, Lo, Lc, D3, e3, s3, q3, _, b3, z3⟩ := open_cell_row_d (Q := fun u d => Q u ∧ f u ≤ Rows.uptoBulk d) und_23 cellsOf_25 (by decide) hel t3 w3
  have e0 : v0 = .int .i64 k := by simpa [eK] using e0
  have e1 : v1 = .int .i64 m := by simpa [eK] using e1
  rw [bytesOf_5] at b2
  rw [bytesOf_25] at b3
  have hr := reach47
  have k2 : l.length + 1 ≤ Rows.uptoBulk y2.1 := by
    have := bulk_len D2 l.length
    rcases z2 with ⟨spare, z⟩ | ⟨z, z'⟩
    · rw [z]; simp only [Rows.uptoBulk]; omega
    · rw [z, z']; simp [Rows.uptoBulk]
  have k3 : (L.map f).sum + 1 ≤ Rows.uptoBulk y3.1 := by
    have := bulk_map (f := f) D3 L (fun i hi => (q3 i hi).2)
    rcases z3 with ⟨spare, z⟩ | ⟨z, z'⟩
    · rw [z]; simp only [Rows.uptoBulk]; omega
    · rw [List.length_eq_zero_iff.1 z, z']; simp [Rows.uptoBulk]
  have one : ∀ d : DataW H, 1 ≤ Rows.uptoBulk d := fun d => by
    have := bulk_len (fun _ => d) 1
    simp [Rows.uptoBulkAll] at this
    exact this
  have kA : 5 + l.length + (L.map f).sum ≤ Rows.uptoBulk y.1 := by
    rw [hpe]
    match parts, hp4 with
    | [a0, a1, a2, a3], _ =>
      simp at p0 p1 p2 p3
      subst p0 p1 p2 p3
      simp only [Rows.uptoBulk, Rows.uptoBulkAll]
      have := one y0.1
      have := one y1.1
      omega
  subst e0 e1 e2 e3
  match cs, hl4 with
  | [c0, c1, c2, c3], _ =>
    simp at g0 g1 g2 g3
    subst g0 g1 g2 g3
    refine ⟨⟨k, m, ⟨l, a, b, o, c⟩, La, Lb, Lo, Lc, L.length⟩, L, rfl, ⟨s2, fun x hx => ?_, by dsimp only; omega, by dsimp only; omega⟩, wf_i64 r1, rfl, s3, fun u hu => ?_, kA⟩
    · obtain ⟨i, hi, rfl⟩ := List.mem_iff_getElem.1 hx
      exact q2 i hi
    · obtain ⟨i, hi, rfl⟩ := List.mem_iff_getElem.1 hu
      exact (q3 i hi).1
theorem open_it_d : ∀ (d : Nat) (n : Nat) (cs : List Value) (y : DataW H × List MemPlace), DataW.trod enc Tryd.prog W 0 sp true n 25 cs = some y → light Tryd.prog 25 y.1 → ∃ x : It d, ((ItV (View.of W) d x ∧ rgI d x) ∧ wt d x ≤ Rows.uptoBulk y.1) ∧ cs = x.enc
  | 0, n, cs, y, h, hw => by
    obtain ⟨hd, L, e, hv, hr, _, _, _, hb⟩ := open_head_d (α := List Value) (encl := id) (Q := fun _ => True) (f := fun _ => 0) n cs y h hw (fun n cs y _ _ => ⟨cs, ⟨trivial, Nat.zero_le _⟩, rfl⟩)
    exact ⟨hd, ⟨⟨hv, hr⟩, by show 5 + hd.B.xs.length ≤ _; omega⟩, e⟩
  | d + 1, n, cs, y, h, hw => by
    obtain ⟨hd, L, e, hv, hr, hl, hs, hq, hb⟩ := open_head_d (α := It d) (encl := It.enc) (Q := fun x => ItV (View.of W) d x ∧ rgI d x) (f := wt d) n cs y h hw (fun n cs y h hw => open_it_d d n cs y h hw)
    exact ⟨(hd, L), ⟨⟨⟨hv, hl, hs, fun x hx => (hq x hx).1⟩, hr, fun x hx => (hq x hx).2⟩, hb⟩, e⟩
theorem open_item_d (D : Nat) {B : Nat} {v : Value} {d : DataW H} {ps : List MemPlace} (hok : Value.okWide Tryd.prog W .any B 25 v) (h : DataW.Trod enc Tryd.prog W 0 sp true 25 v d ps) (hw : light Tryd.prog 25 d) :
    ∃ x : It D, v = .agg x.enc.toArray ∧ ItV (View.of W) D x ∧ rgI D x ∧ wt D x ≤ Rows.uptoBulk d := by
  obtain ⟨cs, rfl, hsz⟩ := okWide_struct Tryd.underlying25 hok
  obtain ⟨fuel, hf⟩ := h
  obtain ⟨x, ⟨⟨h1, h2⟩, h4⟩, h3⟩ := open_it_d D fuel cs.toList (d, ps) (by simpa [Value.cells] using hf) hw
  exact ⟨x, by rw [← h3], h1, h2, h4⟩
end
end Go.Proofs.YtkkfgeekdaalmaaDoor
