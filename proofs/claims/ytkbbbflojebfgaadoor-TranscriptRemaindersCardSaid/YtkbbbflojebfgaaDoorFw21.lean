/-
  The program logic, twenty-first part: rows of bools.
-/
import Derived.Test.YtkbbbflojebfgaaDoorFw20
set_option linter.unusedSimpArgs false
set_option linter.unusedVariables false
namespace Go.Fw
open Go Go.ChangeShapes Go.WideShapes Go.ChangeAt Go.RowKit Go.Deep

abbrev eB (b : Bool) : List Value := [.bool b]
theorem eB_length (b : Bool) : (eB b).length = 1 := rfl
theorem eB_ones (b : Bool) : ones (eB b) = true := rfl
theorem flatB_length {xs : List Bool} : (flat eB xs).length = xs.length := by rw [flat_length (sz := 1) (fun _ => rfl), Nat.mul_one]
theorem flatB_map (xs : List Bool) : flat eB xs = xs.map Value.bool := by
  induction xs with
  | nil => rfl
  | cons x xs ih => simpa [flat] using ih
theorem flatB_get {xs : List Bool} {i : Nat} (h : i < xs.length) : (flat eB xs)[i]? = some (.bool (xs.getD i false)) := by
  rw [flatB_map]
  simp [List.getElem?_map, List.getD, List.getElem?_eq_getElem h]
theorem getB {xs : List Bool} {sp : List Value} {off i : Nat} (e : off = i) (h : i < xs.length) : GetN ((flat eB xs ++ sp)[·]?) off 1 [.bool (xs.getD i false)] := by
  subst e
  refine .cons ?_ .nil
  rw [List.getElem?_append_left (by rw [flatB_length]; exact h), flatB_get h]
theorem getB0 {xs : List Bool} {off i : Nat} (e : off = i) (h : i < xs.length) : GetN ((flat eB xs)[·]?) off 1 [.bool (xs.getD i false)] := by
  subst e
  refine .cons ?_ .nil
  rw [flatB_get h]
theorem flatB_set {xs : List Bool} {i : Nat} {v : Bool} : (flat eB xs).set i (.bool v) = flat eB (xs.set i v) := by rw [flatB_map, flatB_map, List.map_set]
theorem setAtB {xs : List Bool} {sp : List Value} {off i : Nat} {v : Bool} (e : off = i) (h : i < xs.length) : SetAt (flat eB xs ++ sp) off (.bool v) (flat eB (xs.set i v) ++ sp) := by
  subst e
  have := SetAt.set (l := flat eB xs ++ sp) (n := off) (v := .bool v) (by rw [List.length_append, flatB_length]; omega)
  rwa [List.set_append_left _ _ (by rw [flatB_length]; exact h), flatB_set] at this
theorem setAtB0 {xs : List Bool} {off i : Nat} {v : Bool} (e : off = i) (h : i < xs.length) : SetAt (flat eB xs) off (.bool v) (flat eB (xs.set i v)) := by
  have := setAtB (sp := []) (v := v) e h
  rwa [List.append_nil, List.append_nil] at this
theorem SlA.getB {M : View} {a : Option Addr} {p : List Bool} {b o off i : Nat} (s : SlA M eB 1 a p b o) (e : off = o + i) (h : i < p.length) : GetN (M.cell b) off 1 [.bool (p.getD i false)] := by
  subst e
  have := s.cells i h
  rw [show p.getD i false = p[i] by simp [List.getD, List.getElem?_eq_getElem h]]
  rwa [Nat.mul_one] at this
theorem SlA.ownB {w : World} {r : Option Nat} {A : Option Addr} {xs : List Bool} {sp : List Value} {T : TypeId} (hok : OB.ok ⟨r, flat eB xs ++ sp, T⟩ w) (hn : r = none → xs = []) : SlA (View.of w) eB 1 (base r A) xs (r.getD 0) 0 := SlA.own eB_length hok hn
theorem getDB_lt {l : List Bool} {i : Nat} (h : i < l.length) : l.getD i false = l[i] := by simp [List.getD, List.getElem?_eq_getElem h]

section
variable {H : Type} {enc : TypeId × Value → H} {P : Program} {W : World} {sp : Nat → Bool} {held : Bool}
theorem bool_el {e : TypeId} (he : P.underlying e = some .bool) (n : Nat) (cs : List Value) (y : DataW H × List MemPlace) (h : DataW.trod enc P W 0 sp held n e cs = some y) : ∃ u : Bool, True ∧ cs = eB u := by
  cases n with
  | zero => simp [DataW.trod] at h
  | succ n =>
    unfold DataW.trod at h
    rw [he] at h
    split at h <;> simp_all
end
end Go.Fw
