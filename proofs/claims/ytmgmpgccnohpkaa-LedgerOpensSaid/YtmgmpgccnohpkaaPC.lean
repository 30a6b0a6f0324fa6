/-
  The arguments of the ledger's laws, opened: entries, numbers, ledgers.
-/
import Derived.Test.YtmgmpgccnohpkaaRows
import Derived.Test.YtmgmpgccnohpkaaFw9
import Derived.Test.YtmgmpgccnohpkaaLM
namespace Go.Proofs.Ytmgmpgccnohpkaa
set_option maxRecDepth 20000
set_option linter.unusedSimpArgs false
set_option linter.unusedVariables false
open Go Go.Fw Go.ChangeShapes Go.WideShapes Go.ChangeAt Go.RowKit

theorem Try.own : ownKnob Try.prog.godebug = none := by kernel_rfl
theorem Try.laidOut : laidOutB Try.prog = true := by kernel_rfl

section
variable {H : Type} {enc : TypeId × Value → H} {W : World} {sp : Nat → Bool}

theorem four_ints {cs : List Value} (hl : cs.length = 4) (hf : ∀ j, j < 4 → ∃ x : Int, cs[j]? = some (.int .i64 x)) : ∃ u : Ent, cs = u.enc := by
  obtain ⟨x0, g0⟩ := hf 0 (by omega)
  obtain ⟨x1, g1⟩ := hf 1 (by omega)
  obtain ⟨x2, g2⟩ := hf 2 (by omega)
  obtain ⟨x3, g3⟩ := hf 3 (by omega)
  refine ⟨⟨x0, x1, x2, x3⟩, ?_⟩
  match cs, hl with
  | [d0, d1, d2, d3], _ =>
    simp at g0 g1 g2 g3
    subst g0 g1 g2 g3
    rfl

theorem int_cell {n : Nat} {v : Value} {y : DataW H × List MemPlace} (h : DataW.trod enc Try.prog W 0 sp true n 3 [v] = some y) : ∃ x : Int, v = .int .i64 x := by
  obtain ⟨x, e, _⟩ := DataW.trod_int Try.underlying3 h
  exact ⟨x, by simpa using e⟩

theorem ent_el (n : Nat) (cs : List Value) (y : DataW H × List MemPlace) (h : DataW.trod enc Try.prog W 0 sp true n 34 cs = some y) : ∃ u : Ent, True ∧ cs = u.enc := by
  obtain ⟨hl, hf⟩ := open_fields (Try.underlying34) (by kernel_rfl) (by kernel_rfl) h
  obtain ⟨u, hu⟩ := four_ints hl (fun j hj => by
    match j, hj with
    | 0, _ => obtain ⟨c, y, n, g, t⟩ := hf 0 _ rfl; obtain ⟨x, rfl⟩ := int_cell t; exact ⟨x, g⟩
    | 1, _ => obtain ⟨c, y, n, g, t⟩ := hf 1 _ rfl; obtain ⟨x, rfl⟩ := int_cell t; exact ⟨x, g⟩
    | 2, _ => obtain ⟨c, y, n, g, t⟩ := hf 2 _ rfl; obtain ⟨x, rfl⟩ := int_cell t; exact ⟨x, g⟩
    | 3, _ => obtain ⟨c, y, n, g, t⟩ := hf 3 _ rfl; obtain ⟨x, rfl⟩ := int_cell t; exact ⟨x, g⟩)
  exact ⟨u, trivial, hu⟩

theorem int_el (n : Nat) (cs : List Value) (y : DataW H × List MemPlace) (h : DataW.trod enc Try.prog W 0 sp true n 3 cs = some y) : ∃ u : Int, True ∧ cs = enc1 u := by
  obtain ⟨x, e, _⟩ := DataW.trod_int Try.underlying3 h
  exact ⟨x, trivial, e⟩

theorem open_ent {B : Nat} {v : Value} {d : DataW H} {ps : List MemPlace} (hok : Value.okWide Try.prog W .any B 34 v) (h : DataW.Trod enc Try.prog W 0 sp true 34 v d ps) : ∃ u : Ent, v = .agg u.enc.toArray := by
  obtain ⟨cs, rfl, hl, hf⟩ := open_struct (Try.underlying34) (by kernel_rfl) (by kernel_rfl) hok h
  obtain ⟨u, rfl⟩ := four_ints hl (fun j hj => by
    match j, hj with
    | 0, _ => obtain ⟨c, y, n, g, t⟩ := hf 0 _ rfl; obtain ⟨x, rfl⟩ := int_cell t; exact ⟨x, g⟩
    | 1, _ => obtain ⟨c, y, n, g, t⟩ := hf 1 _ rfl; obtain ⟨x, rfl⟩ := int_cell t; exact ⟨x, g⟩
    | 2, _ => obtain ⟨c, y, n, g, t⟩ := hf 2 _ rfl; obtain ⟨x, rfl⟩ := int_cell t; exact ⟨x, g⟩
    | 3, _ => obtain ⟨c, y, n, g, t⟩ := hf 3 _ rfl; obtain ⟨x, rfl⟩ := int_cell t; exact ⟨x, g⟩)
  exact ⟨u, rfl⟩

theorem open_ledger {B : Nat} {v : Value} {d : DataW H} {ps : List MemPlace} (hok : Value.okWide Try.prog W .any B 26 v) (h : DataW.Trod enc Try.prog W 0 sp true 26 v d ps) :
    ∃ (bal : List Int) (ents : List Ent) (a1 a2 : Option Addr) (b1 o1 c1 b2 o2 c2 : Nat), v = .agg [.slice a1 bal.length c1, .slice a2 ents.length c2].toArray ∧ SlA (View.of W) enc1 1 a1 bal b1 o1 ∧ SlA (View.of W) Ent.enc 4 a2 ents b2 o2 := by
  obtain ⟨cs, rfl, hl, hf⟩ := open_struct (Try.underlying26) (by kernel_rfl) (by kernel_rfl) hok h
  obtain ⟨v0, y0, n0, g0, t0⟩ := hf 0 _ rfl
  obtain ⟨v1, y1, n1, g1, t1⟩ := hf 1 _ rfl
  obtain ⟨a1, bal, b1, o1, c1, rfl, s1, _⟩ := open_cell_row Try.underlying24 (sz := 1) (by kernel_rfl) (by decide) int_el t0
  obtain ⟨a2, ents, b2, o2, c2, rfl, s2, _⟩ := open_cell_row Try.underlying22 (sz := 4) (by kernel_rfl) (by decide) ent_el t1
  refine ⟨bal, ents, a1, a2, b1, o1, c1, b2, o2, c2, ?_, s1, s2⟩
  match cs, hl with
  | [d0, d1], _ =>
    simp at g0 g1
    subst g0 g1
    rfl
end
end Go.Proofs.Ytmgmpgccnohpkaa
