/-
  Texts joined: Fw13.
-/
import Derived.Test.YtagmoecojmlogaaVg
import Derived.ChangeKeysEq
import Derived.Laws.Strings
set_option linter.unusedSimpArgs false
set_option linter.unusedVariables false
namespace Go.Fw
open Go Go.RowKit
abbrev eK (k : IntKind) (v : Int) : List Value := [.int k v]
theorem eK_length (k : IntKind) (v : Int) : (eK k v).length = 1 := rfl
theorem eK_ones (k : IntKind) (v : Int) : ones (eK k v) = true := rfl
theorem flatK_length {k : IntKind} {xs : List Int} : (flat (eK k) xs).length = xs.length := by
  rw [flat_length (sz := 1) (fun _ => rfl), Nat.mul_one]
theorem flatK_map (k : IntKind) (xs : List Int) : flat (eK k) xs = xs.map (Value.int k) := by
  induction xs with
  | nil => rfl
  | cons x xs ih => simpa [flat] using ih
theorem flatK_get {k : IntKind} {xs : List Int} {i : Nat} (h : i < xs.length) : (flat (eK k) xs)[i]? = some (.int k (xs.getD i 0)) := by
  rw [flatK_map]
  simp [List.getElem?_map, List.getD, List.getElem?_eq_getElem h]
theorem flatK_set {k : IntKind} {xs : List Int} {i : Nat} {v : Int} (h : i < xs.length) : (flat (eK k) xs).set i (.int k v) = flat (eK k) (xs.set i v) := by
  rw [flatK_map, flatK_map, List.map_set]
theorem setAtK {k : IntKind} {xs : List Int} {sp : List Value} {i : Nat} {v : Int} (h : i < xs.length) : SetAt (flat (eK k) xs ++ sp) (0 + i * 1) (.int k v) (flat (eK k) (xs.set i v) ++ sp) := by
  have := SetAt.set (l := flat (eK k) xs ++ sp) (n := i) (v := .int k v) (by rw [List.length_append, flatK_length]; omega)
  rw [List.set_append_left _ _ (by rw [flatK_length]; exact h), flatK_set h] at this
  rw [show 0 + i * 1 = i by omega]
  exact this
theorem flatK_ones {k : IntKind} {xs : List Int} : ones (flat (eK k) xs) = true := by
  induction xs with
  | nil => rfl
  | cons x xs ih =>
    have e : flat (eK k) (x :: xs) = .int k x :: flat (eK k) xs := rfl
    rw [e]
    simp only [ones]
    exact ih
section
variable {C : Pr} {fm : FM} {M : View} {own : List OB} {K : Value → View → List OB → Prop} {d : Option Nat} {ty : TypeId} {pos : String} {af : Array Edge} {g : Option (Nat × Bool)}
def intArray (P : Program) (t n : Nat) : Bool :=
  !P.eqGuardType P.depth t && (match P.underlying t with
    | some (.array m e) => Nat.beq m n && (match tdInt P e with | some _ => true | none => false) && Nat.beq (P.cellsOf e) 1 && (P.info? e).isSome
    | _ => false)
def slicedP (b o l m sz : Nat) : Addr := if m = l then ⟨b, o, none⟩ else ⟨b, o + l * sz, none⟩
end
end Go.Fw
