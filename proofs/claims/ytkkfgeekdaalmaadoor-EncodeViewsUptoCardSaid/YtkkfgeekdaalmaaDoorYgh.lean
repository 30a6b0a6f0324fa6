/-
  Texts joined: Fw13.
-/
import Derived.Test.YtkkfgeekdaalmaaDoorYgg
import Derived.ChangeKeysEq
import Derived.Laws.Strings
set_option linter.unusedSimpArgs false
set_option linter.unusedVariables false
namespace Go.Fw
open Go Go.RowKit
abbrev eK (k : IntKind) (v : Int) : List Value := [.int k v]
theorem eK_length (k : IntKind) (v : Int) : (eK k v).length = 1 := rfl
theorem eK_ones (k : IntKind) (v : Int) : ones (eK k v) = true := rfl
theorem flatK_length {k : IntKind} {xs : List Int} : (flat (eK k) xs).length = xs.length := by
  rw [flat_length (sz := 1) (fun _ => rfl), Nat.mul_one]
theorem flatK_map (k : IntKind) (xs : List Int) : flat (eK k) xs = xs.map (Value.int k) := by
  induction xs with
  | nil => rfl
  | cons x xs ih => simpa [flat] using ih
theorem flatK_get {k : IntKind} {xs : List Int} {i : Nat} (h : i < xs.length) : (flat (eK k) xs)[i]? = some (.int k (xs.getD i 0)) := by
  rw [flatK_map]
  simp [List.getElem?_map, List.getD, List.getElem?_eq_getElem h]
theorem flatK_ones {k : IntKind} {xs : List Int} : ones (flat (eK k) xs) = true := by
  induction xs with
  | nil => rfl
  | cons x xs ih =>
    have e : flat (eK k) (x :: xs) = .int k x :: flat (eK k) xs := rfl
    rw [e]
    simp only [ones]
    exact ih
section
variable {C : Pr} {fm : FM} {M : View} {own : List OB} {K : Value → View → List OB → Prop} {d : Option Nat} {ty : TypeId} {pos : String} {af : Array Edge} {g : Option (Nat × Bool)}
theorem s_negW {t : TypeId} {x : Operand} {k : IntKind} {m : Int} (hx : ev fm x = some (.int k m)) : Pur C ⟨d, .unOp .neg t x, ty, pos, af, g⟩ fm M own (.int k (k.wrap (0 - m))) :=
  fun a w hf _ => by
    have e : Op.unary .neg (.int k m) = pure (.int k (k.wrap (0 - m))) := rfl
    simp [execOp, hf.eval hx, e]
theorem LEq_refl : ∀ l : List Value, LEq l l
  | [] => .nil
  | v :: l => .cons (LEq_refl l)
theorem s_allocK {t n : Nat} {k : IntKind} (hz : zeroB C.P t = some (.agg (flat (eK k) (List.replicate n 0)).toArray)) (kk : ∀ b, K (.pointer (some ⟨b, 0, none⟩)) M (⟨some b, flat (eK k) (List.replicate n 0), t⟩ :: own)) : Stp C ⟨d, .alloc t, ty, pos, af, g⟩ fm M own K :=
  s_alloc hz (by simpa [Value.cells] using LEq_refl (flat (eK k) (List.replicate n 0))) kk
def intArray (P : Program) (t n : Nat) : Bool :=
  !P.eqGuardType P.depth t && (match P.underlying t with
    | some (.array m e) => Nat.beq m n && (match tdInt P e with | some _ => true | none => false) && Nat.beq (P.cellsOf e) 1 && (P.info? e).isSome
    | _ => false)
def slicedP (b o l m sz : Nat) : Addr := if m = l then ⟨b, o, none⟩ else ⟨b, o + l * sz, none⟩
theorem s_sliceP {t e sz n l h m b o : Nat} {x : Operand} {lo hi mx : Option Operand} (hx : ev fm x = some (.pointer (some ⟨b, o, none⟩))) (ht : tdArray C.P t = some (n, e)) (hs : sizeB C.P e = some sz)
    (hl : bnd fm lo 0 l) (hh : bnd fm hi n h) (hm : bnd fm mx n m) (hmx : mx.isSome = true → hi.isSome = true) (h1 : l ≤ h) (h2 : h ≤ m) (h3 : m ≤ n) :
    Pur C ⟨d, .slice t x lo hi mx, ty, pos, af, g⟩ fm M own (.slice (some (slicedP b o l m sz)) (h - l) (m - l)) :=
  fun act w hf _ => by
    have ht' := tdArray_eq ht
    have hb : (Instr.sliceBounds false n n (lo.map act.eval) (hi.map act.eval) (mx.map act.eval)).run C.P w = .ok (l, h, m) w := by
      cases lo <;> cases hi <;> cases mx <;> simp only [bnd] at hl hh hm <;> (try (simp at hmx; done))
      all_goals
        (try obtain ⟨k1, e1⟩ := hl); (try obtain ⟨k2, e2⟩ := hh); (try obtain ⟨k3, e3⟩ := hm)
        (try subst hl); (try subst hh); (try subst hm)
        simp [Instr.sliceBounds, *, hf.eval, run_sliceBound]
    have key : (Instr.sliceAt t (.pointer (some ⟨b, o, none⟩)) (lo.map act.eval) (hi.map act.eval) (mx.map act.eval)).run C.P w = .ok (.slice (some (slicedP b o l m sz)) (h - l) (m - l)) w := by
      simp only [Instr.sliceAt, Sem.run_bind, run_underlying ht', Result.andThen_ok, Instr.sureAddr, Sem.run_pure, hb, run_sizeOf hs]
      unfold slicedP
      by_cases e : m = l
      · simp [e]
      · simp [e, Addr.add_lit]
    simp only [execOp, hf.eval hx, Sem.run_bind, key, Result.andThen_ok, Sem.run_pure]
end
end Go.Fw
