/-
  Texts joined: Fw18 Fw19 Fw20 Fw21 Fw22.
-/
import Derived.Test.YtkkfgeekdaalmaaDoorYgk
import Derived.Lib.Bytealg
import Derived.Lib.BytesEntry
set_option linter.unusedSimpArgs false
set_option linter.unusedVariables false
namespace Go.Fw
open Go Go.RowKit
section
variable {C : Pr} {fm : FM} {M : View} {own : List OB} {K : Value → View → List OB → Prop} {d : Option Nat} {ty : TypeId} {pos : String} {af : Array Edge} {g : Option (Nat × Bool)}
theorem getNK_n {k : IntKind} {xs : List Int} {sp : List Value} {n : Nat} (hn : xs.length = n) : GetN ((flat (eK k) xs ++ sp)[·]?) 0 n (flat (eK k) xs) := by
  subst hn
  refine getN_list ?_ ?_
  · rw [List.drop_zero, List.take_append_of_le_length (by rw [flatK_length]; exact Nat.le_refl _), List.take_of_length_le (by rw [flatK_length]; exact Nat.le_refl _)]
  · rw [List.length_append, flatK_length]; omega
theorem SlA.atn {α : Type} {M : View} {enc : α → List Value} {sz : Nat} {a : Option Addr} {xs : List α} {b off n : Nat} (s : SlA M enc sz a xs b off) (hn : xs.length = n) : 0 < n → a = some ⟨b, off, none⟩ := fun h => s.at_ (by omega)
theorem s_neqStr {t : TypeId} {t' : TypeId} {x y : Operand} {a b : ByteArray} (hx : ev fm x = some (.string a)) (hy : ev fm y = some (.string b)) :
    Pur C ⟨d, .binOp .neq t x y t', ty, pos, af, g⟩ fm M own (.bool (!(a.toList == b.toList))) := by
  intro act w hf _
  simp only [execOp, hf.eval hx, hf.eval hy, Sem.run_bind, eqGuard_at_string, binOp_string_neq, Sem.run_pure, Result.andThen_ok]
theorem run_eqB {P : Program} {t : TypeId} (ht : P.underlying t = some .bool) (a b : Bool) (w : World) : (Op.equalIn 10000 t (.bool a) (.bool b)).run P w = .ok (a == b) w := by
  have key : ∀ n' : Nat, (Op.equalIn (n' + 1) t (.bool a) (.bool b)).run P w = .ok (a == b) w := fun n' => by simp [Op.equalIn, run_underlying ht]
  exact key 9999
theorem s_neqB {t : TypeId} {t' : TypeId} {x y : Operand} {a b : Bool} (hx : ev fm x = some (.bool a)) (hy : ev fm y = some (.bool b)) (ht : C.P.underlying t = some .bool) : Pur C ⟨d, .binOp .neq t x y t', ty, pos, af, g⟩ fm M own (.bool (!(a == b))) := by
  intro act w hf _
  have e : binOp .neq t (.bool a) (.bool b) = (do pure (.bool (!(← Op.equalIn 10000 t (.bool a) (.bool b))))) := rfl
  simp only [execOp, hf.eval hx, hf.eval hy, eqGuard_at_bool, Sem.run_bind, Sem.run_pure, Result.andThen_ok, e, run_eqB ht]
/-- How two rows of bytes are ordered. -/
def cmpI : List Int → List Int → Int
  | [], [] => 0
  | [], _ :: _ => -1
  | _ :: _, [] => 1
  | a :: as, b :: bs => if a < b then -1 else if b < a then 1 else cmpI as bs
end
end Go.Fw
set_option linter.unusedSimpArgs false
set_option linter.unusedVariables false
namespace Go.Fw
open Go Go.RowKit
theorem bits_or64 {x y : Nat} (hx : x < 2 ^ 64) (hy : y < 2 ^ 64) : Go.bits .or .u64 (x : Int) (y : Int) = ((x ||| y : Nat) : Int) := by
  have e : Go.bits .or .u64 (x : Int) (y : Int) = IntKind.u64.wrap (((BitVec.ofInt 64 (x : Int) ||| BitVec.ofInt 64 (y : Int)) : BitVec 64).toNat : Int) := rfl
  rw [e, BitVec.toNat_or, BitVec.ofInt_natCast, BitVec.ofInt_natCast, BitVec.toNat_ofNat, BitVec.toNat_ofNat, Nat.mod_eq_of_lt hx, Nat.mod_eq_of_lt hy]
  have := Nat.or_lt_two_pow hx hy
  rw [wrapU64]
  omega
theorem or_add {q m s : Nat} (hm : m < 2 ^ s) : q * 2 ^ s ||| m = q * 2 ^ s + m := by
  have := Nat.shiftLeft_add_eq_or_of_lt hm q
  rw [Nat.shiftLeft_eq] at this
  exact this.symm
/-- A byte put in behind. -/
theorem or_byte64 {x c : Int} (hx : 0 ≤ x ∧ x < 72057594037927936) (h : 0 ≤ c ∧ c ≤ 255) : Go.bits .or .u64 (IntKind.u64.wrap (x * 2 ^ 8)) c = 256 * x + c := by
  obtain ⟨m, rfl⟩ := Int.eq_ofNat_of_zero_le h.1
  obtain ⟨q, rfl⟩ := Int.eq_ofNat_of_zero_le hx.1
  have e : IntKind.u64.wrap ((q : Int) * 2 ^ 8) = ((q * 2 ^ 8 : Nat) : Int) := by
    show IntKind.u64.wrap ((q : Int) * 256) = _
    rw [wrap_u64 (by omega)]; omega
  rw [e, bits_or64 (by omega) (by omega), or_add (by omega)]
  omega
end Go.Fw
set_option linter.unusedSimpArgs false
set_option linter.unusedVariables false
namespace Go.Fw
open Go Go.RowKit
theorem View.none_of {F M : View} {b : Nat} (h : View.le F M) (hb : M b = none) : F b = none := by
  cases e : F b with
  | none => rfl
  | some o => rw [h b o e] at hb; cases hb
/-- The view of nothing. -/
def View.nil : View := fun _ => none
theorem View.nil_le (M : View) : View.le View.nil M := fun _ _ e => by cases e
/-- All blocks of the view are new. -/
def View.fresh (F : View) (w : World) : Prop := ∀ b o, F b = some o → w.heap.size ≤ b
def View.join (M F : View) : View := fun b => match M b with
  | some o => some o
  | none => F b
section
variable {C : Pr} {fm : FM} {M : View} {own : List OB} {N : SP} {X : Nat → SP} {R : SP} {l0 : Array Oper} {l : List Oper} {K : SP}
end
/-- A call that hands back blocks of its own, some of them for reading alone. -/
def FnV (P : Program) (f : FuncId) (args : List Value) (w : World) (Ψ : Value → View → List OB → Prop) : Prop :=
  Calls P f args.toArray w (fun e w' => ∃ v new F, e = .returned v ∧ Tr w w' [] new ∧ View.fresh F w ∧ View.le F (View.of w') ∧ (∀ x ∈ new, ∀ b, x.ref = some b → F b = none) ∧ Ψ v F new)
/-- What such a function's end must show. -/
def EndsV (P : Program) (wE : World) (rs : List ResultVar) (Ψ : Value → View → List OB → Prop) : SP := fun fm M own =>
  ∃ vs new F, RVal P fm M own rs vs ∧ Pick own new ∧ View.le F M ∧ View.fresh F wE ∧ Ψ (tup vs) F new
end Go.Fw
set_option linter.unusedSimpArgs false
set_option linter.unusedVariables false
namespace Go.Fw
open Go Go.ChangeShapes Go.WideShapes Go.ChangeAt Go.RowKit Go.Deep
abbrev eB (b : Bool) : List Value := [.bool b]
section
variable {H : Type} {enc : TypeId × Value → H} {P : Program} {W : World} {sp : Nat → Bool} {held : Bool}
end
end Go.Fw
set_option linter.unusedSimpArgs false
set_option linter.unusedVariables false
namespace Go.Fw
open Go Go.RowKit
section
variable {C : Pr} {fm : FM} {M : View} {own : List OB} {K : Value → View → List OB → Prop} {d : Option Nat} {ty : TypeId} {pos : String} {af : Array Edge} {g : Option (Nat × Bool)}
end
end Go.Fw
