/-
  Texts joined: Fw11.
-/
import Derived.Test.YtkkfgeekdaalmaaDoorYge
import Derived.Laws.Small
set_option linter.unusedSimpArgs false
set_option linter.unusedVariables false
namespace Go.Fw
open Go Go.RowKit
section
variable {C : Pr} {fm : FM} {M : View} {own : List OB} {K : Value → View → List OB → Prop} {d : Option Nat} {ty : TypeId} {pos : String} {af : Array Edge} {g : Option (Nat × Bool)}
end
/-- A row that the call hands back. -/
def RowRes {α : Type} (enc : α → List Value) (sz T : Nat) (xs : List α) (v : Value) (new : List OB) : Prop :=
  ∃ r A cap sp, v = .slice (base r A) xs.length cap ∧ new = [⟨r, flat enc xs ++ sp, T⟩] ∧ SO r xs.length cap (flat enc xs) sp sz
theorem RowRes.zero {α : Type} (enc : α → List Value) (sz T : Nat) : RowRes enc sz T [] (.slice none 0 0) [⟨none, [], T⟩] := ⟨none, none, 0, [], rfl, rfl, SO.nil sz⟩
theorem SO.emp {α : Type} {enc : α → List Value} {sz : Nat} {r : Option Nat} {xs : List α} {cap : Nat} {sp : List Value} (h : SO r xs.length cap (flat enc xs) sp sz) (hr : r = none) : xs = [] := List.length_eq_zero_iff.mp (h.empty hr)
/-- The first element that is wanted. -/
def idxI {α : Type} (p : α → Bool) (l : List α) : Int := if l.any p then ((l.findIdx p : Nat) : Int) else -1
theorem idxI_any {α : Type} {p : α → Bool} {xs : List α} : 0 ≤ idxI p xs ↔ xs.any p = true := by
  unfold idxI
  split
  · rename_i h; simp [h]
  · rename_i h; simp [h]
theorem idxI_first {α : Type} {p : α → Bool} {xs : List α} {k : Nat} (hk : k < xs.length) (ht : (xs.take k).any p = false) (hp : p xs[k] = true) : idxI p xs = k := by
  have h1 : xs.any p = true := List.any_eq_true.2 ⟨xs[k], List.getElem_mem hk, hp⟩
  have h2 : xs.findIdx p = k := by
    rw [List.findIdx_eq hk]
    refine ⟨hp, fun j hj => ?_⟩
    have := List.any_eq_false.1 ht xs[j] (List.mem_take_iff_getElem.2 ⟨j, by omega, rfl⟩)
    simpa using this
  simp [idxI, h1, h2]
/-- A slice that is an element of a row. -/
structure Sl (α : Type) where
  xs : List α
  a : Option Addr
  b : Nat
  o : Nat
  c : Nat
abbrev Sl.enc {α : Type} (s : Sl α) : List Value := [.slice s.a s.xs.length s.c]
theorem Sl.enc_length {α : Type} (s : Sl α) : s.enc.length = 1 := rfl
def catLen {α : Type} (L : List (Sl α)) : Nat := (L.map fun s => s.xs.length).sum
def catAll {α : Type} (L : List (Sl α)) : List α := L.flatMap Sl.xs
end Go.Fw
