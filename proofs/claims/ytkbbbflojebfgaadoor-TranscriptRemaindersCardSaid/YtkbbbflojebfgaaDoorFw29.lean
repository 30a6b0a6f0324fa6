/-
  The program logic, twenty-ninth part: contracts that write one row ('putRow') in the words of the framework.
-/
import Derived.Test.YtkbbbflojebfgaaDoorFw28
import Derived.Sort.Row
import Derived.Deep.Draws
set_option linter.unusedSimpArgs false
set_option linter.unusedVariables false
namespace Go.Fw
open Go Go.RowKit Go.Sort
theorem ret_of_putRow {α : Type} [Inhabited α] {enc : α → Value} {P : Program} {f : FuncId} {args : List Value} {w : World} {b : Nat} {cs : List Value} {T : TypeId} {res : Value} {Q : Array α → Prop} (hok : OB.ok ⟨some b, cs, T⟩ w)
    (h : Calls P f args.toArray w fun e w' => e = .returned res ∧ ∃ (dk : Array α) (w1 : World), w1.heap = (putRow enc w b 0 dk).heap ∧ w1.os = w.os ∧ w1.tape = w.tape ∧ w1.output = w.output ∧ w' = w1 ∧ Q dk) :
    Ret P f args w (fun v m new => ∃ cs', m = [⟨some b, cs', T⟩] ∧ v = res ∧ new = [] ∧ ∃ dk, Q dk ∧ cs' = (putCells enc 0 dk cs.toArray).toList) := by
  refine Calls.mono h fun e w' ⟨h1, dk, w1, hh, h2, h3, h4, h5, h6⟩ => ?_
  subst h5
  obtain ⟨fz, hfz, hb⟩ := OB.ok_some hok
  have hsz : (putCells enc 0 dk cs.toArray).toList.length = cs.length := by simp [putCells]
  refine ⟨res, [⟨some b, (putCells enc 0 dk cs.toArray).toList, T⟩], [], h1, ⟨h2, h3, h4, by rw [hh, size_putRow]; exact Nat.le_refl _, fun k hk hm => ?_, fun x hx => ?_, fun x hx => (by cases hx), List.nodup_nil⟩, _, rfl, rfl, rfl, dk, h6, rfl⟩
  · have hkb : b ≠ k := fun e => hm _ (List.mem_singleton.2 rfl) (by rw [e])
    rw [hh]
    unfold putRow mapBlock
    rw [Array.getElem?_modify, if_neg hkb]
  · simp only [List.append_nil, List.mem_singleton] at hx
    subst hx
    refine OB.ok_mk (fz := fz) ?_ (by rw [hsz]; exact hfz)
    rw [hh]
    unfold putRow mapBlock
    simp [Array.getElem?_modify, hb, onCells]
theorem not_frozen {b off : Nat} {cs : List Value} {T : TypeId} {w : World} (hok : OB.ok ⟨some b, cs, T⟩ w) (h : off < cs.length) : w.frozen? ⟨b, off, none⟩ = false := by
  obtain ⟨⟨lo, hi⟩, hfz, hb⟩ := OB.ok_some hok
  unfold World.frozen?
  simp only [hb]
  rcases hfz with h1 | h1
  · have : ¬ lo ≤ off := by have : cs.length ≤ lo := h1; omega
    simp [this]
  · simp only [Prod.mk.injEq] at h1
    obtain ⟨rfl, rfl⟩ := h1
    simp
theorem cell_of_ok {b off : Nat} {cs : List Value} {T : TypeId} {w : World} {v : Value} (hok : OB.ok ⟨some b, cs, T⟩ w) (h : cs[off]? = some v) : w.cell? ⟨b, off, none⟩ = some v := by
  obtain ⟨fz, hfz, hb⟩ := OB.ok_some hok
  unfold World.cell?
  simp [hb, h]
end Go.Fw
