/-
  Texts joined: Fw27 Fw28.
-/
import Derived.Test.YtkkfgeekdaalmaaDoorYgo
import Derived.Laws.Concat
import Derived.Laws.Strings2
set_option linter.unusedSimpArgs false
set_option linter.unusedVariables false
namespace Go.Fw
open Go Go.RowKit
theorem strOf_append (xs ys : List Int) : strOf (xs ++ ys) = strOf xs ++ strOf ys := by
  unfold strOf bytesOf
  rw [List.map_append]
  exact (ByteArray.mk_append_mk _ _).symm
theorem strOf_inj {xs ys : List Int} (hx : ∀ x ∈ xs, 0 ≤ x ∧ x ≤ 255) (hy : ∀ x ∈ ys, 0 ≤ x ∧ x ≤ 255) (h : strOf xs = strOf ys) : xs = ys := by rw [← intsB_strOf hx, ← intsB_strOf hy, h]
theorem strOf_beq {xs ys : List Int} (hx : ∀ x ∈ xs, 0 ≤ x ∧ x ≤ 255) (hy : ∀ x ∈ ys, 0 ≤ x ∧ x ≤ 255) : ((strOf xs).toList == (strOf ys).toList) = decide (xs = ys) := by
  have key : (strOf xs).toList = (strOf ys).toList ↔ xs = ys := by
    constructor
    · intro h
      refine strOf_inj hx hy ?_
      apply ByteArray.ext
      apply Array.toList_inj.1
      rw [← ByteArray.toList_eq, ← ByteArray.toList_eq, h]
    · rintro rfl; rfl
  by_cases h : xs = ys
  · rw [decide_eq_true h, beq_iff_eq]; exact key.2 h
  · rw [decide_eq_false h, beq_eq_false_iff_ne]; exact fun h2 => h (key.1 h2)
section
variable {C : Pr} {fm : FM} {M : View} {own : List OB} {K : Value → View → List OB → Prop} {d : Option Nat} {ty : TypeId} {pos : String} {af : Array Edge} {g : Option (Nat × Bool)}
section
variable {t t' : TypeId} {x y : Operand} {k1 : IntKind} {m n : Int}
theorem s_shrE {yk : IntKind} {r : Int} (hx : ev fm x = some (.int k1 m)) (hy : ev fm y = some (.int yk n)) (h : 0 ≤ n ∧ n ≤ k1.bits) (e : m / 2 ^ n.toNat = r) : Pur C ⟨d, .binOp .shr t x y t', ty, pos, af, g⟩ fm M own (.int k1 r) := e ▸ s_shr hx hy h
/-- A bit operation whose value is known. -/
theorem s_orE {r : Int} (hx : ev fm x = some (.int k1 m)) (hy : ev fm y = some (.int k1 n)) (h : Go.bits .or k1 m n = r) : Pur C ⟨d, .binOp .or t x y t', ty, pos, af, g⟩ fm M own (.int k1 r) := h ▸ s_or hx hy
theorem s_andE {r : Int} (hx : ev fm x = some (.int k1 m)) (hy : ev fm y = some (.int k1 n)) (h : Go.bits .and k1 m n = r) : Pur C ⟨d, .binOp .and t x y t', ty, pos, af, g⟩ fm M own (.int k1 r) := h ▸ s_and hx hy
end
theorem s_concat {t t' : TypeId} {x y : Operand} {a b : ByteArray} {v : ByteArray} (hx : ev fm x = some (.string a)) (hy : ev fm y = some (.string b)) (hs : a.size + b.size ≤ 9223372036854775807) (hv : a ++ b = v) :
    Pur C ⟨d, .binOp .add t x y t', ty, pos, af, g⟩ fm M own (.string v) := by
  intro act w hf _
  subst hv
  simp only [execOp, hf.eval hx, hf.eval hy, Sem.run_bind, binOp_string_add, run_string_add_sum w a b hs, eqGuard_at_string, Sem.run_pure, Result.andThen_ok]
theorem s_cat {t t' : TypeId} {x y : Operand} {xs ys : List Int} (hx : ev fm x = some (.string (strOf xs))) (hy : ev fm y = some (.string (strOf ys))) (hs : xs.length + ys.length ≤ 9223372036854775807) :
    Pur C ⟨d, .binOp .add t x y t', ty, pos, af, g⟩ fm M own (.string (strOf (xs ++ ys))) :=
  s_concat hx hy (by rw [strOf_size, strOf_size]; exact hs) (strOf_append xs ys).symm
end
end Go.Fw
set_option linter.unusedSimpArgs false
set_option linter.unusedVariables false
namespace Go.Fw
open Go Go.RowKit
theorem byteCells_strOf {ys : List Int} (h : ∀ x ∈ ys, 0 ≤ x ∧ x ≤ 255) : Go.byteCells (strOf ys) = flat (eK .u8) ys := by
  rw [flatK_map]
  have e : Go.byteCells (strOf ys) = (intsB (strOf ys)).map (Value.int .u8) := by
    unfold Go.byteCells intsB
    simp [List.map_map, Function.comp_def]
  rw [e, intsB_strOf h]
section
variable {C : Pr} {fm : FM} {M : View} {own : List OB} {K : Value → View → List OB → Prop} {d : Option Nat} {ty : TypeId} {pos : String} {af : Array Edge} {g : Option (Nat × Bool)}
theorem s_append_s {x y : Operand} {p q : List OB} {ref : Option Nat} {A : Option Addr} {n cap by_ : Nat} {cs xs sp : List Value} {ys : List Int} {t tx e : TypeId} {z : Value}
    (hx : ev fm x = some (.slice (base ref A) n cap)) (hy : ev fm y = some (.string (strOf ys))) (hyb : ∀ x ∈ ys, 0 ≤ x ∧ x ≤ 255) (hp : Spl own ⟨ref, cs, e⟩ p q) (hcs : cs = xs ++ sp)
    (ht : tdSlice C.P t = some e) (htx : C.P.underlying tx = some .string) (hsz : sizeB C.P e = some 1) (hz : zeroB C.P e = some z) (hzs : z.cells.size = 1) (hby : bytesB C.P e = some by_)
    (so : SO ref n cap xs sp 1) (hb : (n + ys.length) * by_ ≤ 140737488355328) (h63 : n + ys.length ≤ 9223372036854775807)
    (k : ∀ ref' sp' cap', SO ref' (n + ys.length) cap' (xs ++ flat (eK .u8) ys) sp' 1 → K (.slice (base ref' A) (n + ys.length) cap') M (p ++ ⟨ref', xs ++ flat (eK .u8) ys ++ sp', e⟩ :: q)) :
    Stp C ⟨d, .call { callee := .builtin .append, args := #[x, y], argTypes := #[t, tx] }, ty, pos, af, g⟩ fm M own K := by
  subst hcs
  refine s_appendG (m := ys.length) (news := flat (eK .u8) ys) hx hy hp ht hsz hz hzs hby so.hlen so.hcap so.hle so.hnone (fun w _ => ?_) hb h63 (fun ref' sp' cap' h2 h3 h4 => k ref' sp' cap' ⟨by rw [List.length_append, so.hlen, flatK_length]; omega, h2, h3, h4⟩)
  have := Go.Src.ofString w htx (strOf ys)
  rw [byteCells_strOf hyb, strOf_size] at this
  exact this
end
end Go.Fw
