/-
  Texts joined: Fw17.
-/
import Derived.Test.YtkkfgeekdaalmaaDoorYgj
import Derived.OpenShut
import Derived.ChangeMaps5
import Derived.LaidHandle
set_option linter.unusedSimpArgs false
set_option linter.unusedVariables false
namespace Go.Fw
open Go Go.ChangeShapes Go.WideShapes Go.ChangeAt Go.RowKit Go.Deep
section
variable {H : Type} {enc : TypeId × Value → H} {P : Program} {W : World} {sp : Nat → Bool} {held : Bool}
theorem int_elK {e : TypeId} {k : IntKind} (he : P.underlying e = some (.int k)) (n : Nat) (cs : List Value) (y : DataW H × List MemPlace) (h : DataW.trod enc P W 0 sp held n e cs = some y) : ∃ u : Int, (Lit.int k u).wf = true ∧ cs = eK k u := by
  obtain ⟨x, e, _, hw⟩ := DataW.trod_int he h
  exact ⟨x, hw, e⟩
theorem trod_ints {t e : TypeId} {n : Nat} {k : IntKind} {fuel : Nat} {cs : List Value} {x : DataW H × List MemPlace} (ht : P.underlying t = some (.array n e)) (he : P.underlying e = some (.int k)) (hc : P.cellsOf e = 1) (hct : P.cellsOf t = n)
    (h : DataW.trod enc P W 0 sp held fuel t cs = some x) : ∃ xs : List Int, cs = flat (eK k) xs ∧ xs.length = n ∧ x.1 = .agg (xs.map fun z => .lit (.int k z)) ∧ ∀ z ∈ xs, (Lit.int k z).wf = true := by
  obtain ⟨ys, m, rfl, rfl, hlen, hyl, hf⟩ := DataW.trod_array ht h
  rw [hct] at hlen
  rw [hc] at hf
  have each : ∀ i, i < n → ∃ z : Int, cs[i]? = some (.int k z) ∧ (ys.map (·.1))[i]? = some (.lit (.int k z)) ∧ (Lit.int k z).wf = true := by
    intro i hi
    have h1 := hf i hi
    rw [Nat.mul_one] at h1
    obtain ⟨y, hy⟩ : ∃ y, ys[i]? = some y := ⟨_, List.getElem?_eq_getElem (by omega)⟩
    rw [hy] at h1
    obtain ⟨z, e1, e2, e3⟩ := DataW.trod_int he h1
    refine ⟨z, ?_, by rw [List.getElem?_map, hy, e2]; rfl, e3⟩
    have : ((cs.drop i).take 1)[0]? = some (.int k z) := by rw [e1]; rfl
    simpa using this
  obtain ⟨xs, hxl, hx⟩ := listOf n each
  refine ⟨xs, ?_, hxl, ?_, ?_⟩
  · apply List.ext_getElem?
    intro i
    rw [flatK_map]
    by_cases hi : i < n
    · rw [(hx i (by omega)).1, List.getElem?_map, List.getElem?_eq_getElem (by omega : i < xs.length)]; rfl
    · rw [List.getElem?_eq_none (by omega), List.getElem?_eq_none (by simp; omega)]
  · show DataW.agg _ = _
    congr 1
    apply List.ext_getElem?
    intro i
    by_cases hi : i < n
    · rw [(hx i (by omega)).2.1, List.getElem?_map, List.getElem?_eq_getElem (by omega : i < xs.length)]; rfl
    · rw [List.getElem?_eq_none (by simp; omega), List.getElem?_eq_none (by simp; omega)]
  · intro z hz
    obtain ⟨i, hi, rfl⟩ := List.mem_iff_getElem.1 hz
    exact (hx i hi).2.2
theorem open_rowK {t e : TypeId} {B : Nat} {k : IntKind} {v : Value} {d : DataW H} {ps : List MemPlace} (ht : P.underlying t = some (.slice e)) (he : P.underlying e = some (.int k)) (hc : P.cellsOf e = 1) (hok : Value.okWide P W .any B t v)
    (h : DataW.Trod enc P W 0 sp true t v d ps) :
    ∃ (a : Option Addr) (l : List Int) (b o c : Nat), v = .slice a l.length c ∧ SlA (View.of W) (eK k) 1 a l b o ∧ (∀ z ∈ l, lowK k ≤ z ∧ z ≤ highK k) ∧ l.length ≤ c ∧ c ≤ maxLen ∧ (a = none → c = 0) := by
  obtain ⟨a, l, b, o, c, h1, h2, h3, h4, h5, h6⟩ := open_row ht hc (by decide) (fun n cs y hy => int_elK he n cs y hy) hok h
  refine ⟨a, l, b, o, c, h1, h2, fun z hz => ?_, h4, h5, h6⟩
  obtain ⟨i, hi, rfl⟩ := List.mem_iff_getElem.1 hz
  exact wf_fit (h3 i hi)
/-- A listed variable that is an array of numbers. -/
theorem laid_arr {t e g : TypeId} {n : Nat} {k : IntKind} {name : String} {xs : List Int} {r : List (String × DataW Unit)} {ps : List MemPlace} (hg : P.globalNamed name = some g) (hgt : (P.globals[g]?).map (·.type) = some t)
    (ht : P.underlying t = some (.array n e)) (he : P.underlying e = some (.int k)) (hc : P.cellsOf e = 1) (hct : P.cellsOf t = n)
    (h : DataW.LaidVars P W ((name, .agg (xs.map fun z => .lit (.int k z))) :: r) ps) : (∀ i, (View.of W).cell g i = (flat (eK k) xs)[i]?) ∧ ∃ q, DataW.LaidVars P W r q := by
  obtain ⟨g', t', cs, fuel, p, q, h1, h2, h3, h4, h5, _⟩ := h
  obtain rfl : g = g' := Option.some.inj (hg.symm.trans h1)
  obtain rfl : t = t' := Option.some.inj (hgt.symm.trans h2)
  refine ⟨fun i => ?_, q, h5⟩
  obtain ⟨ys, e1, _, e3, _⟩ := trod_ints ht he hc hct h4
  have e4 : ys = xs := by
    have : (DataW.agg (xs.map fun z => .lit (.int k z)) : DataW Unit) = .agg (ys.map fun z => .lit (.int k z)) := e3
    injection this with this
    exact (List.map_inj_right (fun a b hab => by injection hab with hab; injection hab)).1 this.symm
  subst e4
  have hx : cs[i]? = (flat (eK k) ys)[i]? := by rw [← e1]; simp
  rw [← hx]
  unfold View.cell View.of
  simp only [World.var?, h1, Option.bind_some] at h3
  split at h3 <;> simp_all
theorem laidMet_of_H {l : List (String × DataW Unit)} (hf : (l.filter fun x => x.2.handleName?.isSome) = []) (h : laidMetH P l W) : laidMet P l W := by
  unfold laidMetH at h
  rw [hf] at h
  exact h
end
end Go.Fw
