/-
  The program logic, twentieth part: blocks that are written no more go over into the view; calls that hand such blocks back.
-/
import Derived.Test.YtkbbbflojebfgaaDoorFw19
set_option linter.unusedSimpArgs false
set_option linter.unusedVariables false
namespace Go.Fw
open Go Go.RowKit

theorem View.add_mono {F M : View} {b : Nat} {o : Obj} (h : View.le F M) : View.le (F.add b o) (M.add b o) := fun k x e => by
  unfold View.add at *
  split
  · rename_i hk; rw [if_pos hk] at e; exact e
  · rename_i hk; rw [if_neg hk] at e; exact h k x e
theorem View.none_of {F M : View} {b : Nat} (h : View.le F M) (hb : M b = none) : F b = none := by
  cases e : F b with
  | none => rfl
  | some o => rw [h b o e] at hb; cases hb
/-- The view of nothing. -/
def View.nil : View := fun _ => none
theorem View.nil_le (M : View) : View.le View.nil M := fun _ _ e => by cases e
/-- All blocks of the view are new. -/
def View.fresh (F : View) (w : World) : Prop := ∀ b o, F b = some o → w.heap.size ≤ b
theorem View.fresh_nil (w : World) : View.fresh View.nil w := fun _ _ e => by cases e
theorem View.fresh_add {F : View} {w : World} {b : Nat} {o : Obj} (h : View.fresh F w) (hb : w.heap.size ≤ b) : View.fresh (F.add b o) w := fun k x e => by
  unfold View.add at e
  split at e
  · rename_i hk; subst hk; exact hb
  · exact h k x e
def View.join (M F : View) : View := fun b => match M b with
  | some o => some o
  | none => F b

theorem St.toView {wE : World} {mu : List Nat} {M : View} {own : List OB} {w : World} (h : St wE mu M own w) {b : Nat} {cs : List Value} {T : TypeId} {p q : List OB} (hp : Spl own ⟨some b, cs, T⟩ p q) :
    ∃ fz, M b = none ∧ (wE.heap.size ≤ b ∨ b ∈ mu) ∧ St wE mu (M.add b (.cells cs.toArray T fz)) (p ++ q) w := by
  have e := hp.eq
  subst e
  have hb' := h.sep ⟨some b, cs, T⟩ (by simp) b rfl
  obtain ⟨fz, _, hh⟩ := OB.ok_some (h.cells ⟨some b, cs, T⟩ (by simp))
  have hnd := h.nodup
  simp only [List.filterMap_append, List.filterMap_cons] at hnd
  have hne : ∀ x, (x ∈ p ∨ x ∈ q) → x.ref ≠ some b := by
    intro x hx e
    have h4 := List.nodup_append.1 hnd
    rcases hx with hx | hx
    · exact h4.2.2 b (List.mem_filterMap.2 ⟨x, hx, e⟩) b (by simp) rfl
    · exact (List.nodup_cons.1 h4.2.1).1 (List.mem_filterMap.2 ⟨x, hx, e⟩)
  refine ⟨fz, hb'.1, hb'.2, h.os, h.tape, h.output, h.size, h.frame, fun k o e => ?_, fun x hx k hk => ?_, fun x hx => h.cells x (by rcases List.mem_append.1 hx with hx | hx <;> simp [hx]), ?_⟩
  · unfold View.add at e
    split at e
    · rename_i hk; subst hk; rw [← e]; exact hh
    · exact h.imm k o e
  · have hx' : x ∈ p ∨ x ∈ q := List.mem_append.1 hx
    have hx2 := h.sep x (by rcases hx' with hx | hx <;> simp [hx]) k hk
    refine ⟨?_, hx2.2⟩
    have hkb : ¬ k = b := fun e => hne x hx' (by rw [hk, e])
    unfold View.add
    rw [if_neg hkb]
    exact hx2.1
  · rw [List.filterMap_append]
    exact hnd.sublist (List.Sublist.append (List.Sublist.refl _) (List.sublist_cons_self _ _))

section
variable {C : Pr} {fm : FM} {M : View} {own : List OB} {N : SP} {X : Nat → SP} {R : SP} {l0 : Array Oper} {l : List Oper} {K : SP}
theorem cw_freeze {c : Code} {b : Nat} {cs : List Value} {T : TypeId} {p q : List OB} (hp : Spl own ⟨some b, cs, T⟩ p q)
    (h : ∀ o fz, o = .cells cs.toArray T fz → M b = none → (C.wE.heap.size ≤ b ∨ b ∈ C.mu) → CW C c fm (M.add b o) (p ++ q) N X R) : CW C c fm M own N X R := by
  intro a w hf hs
  obtain ⟨fz, h1, h2, h3⟩ := hs.toView hp
  exact h _ fz rfl h1 h2 a w hf h3
theorem ol_freeze {b : Nat} {cs : List Value} {T : TypeId} {p q : List OB} (hp : Spl own ⟨some b, cs, T⟩ p q)
    (h : ∀ o fz, o = .cells cs.toArray T fz → M b = none → (C.wE.heap.size ≤ b ∨ b ∈ C.mu) → OL C l0 l fm (M.add b o) (p ++ q) K) : OL C l0 l fm M own K := by
  intro a w hf hs
  obtain ⟨fz, h1, h2, h3⟩ := hs.toView hp
  exact h _ fz rfl h1 h2 a w hf h3
end

/-- A call that hands back blocks of its own, some of them for reading alone. -/
def FnV (P : Program) (f : FuncId) (args : List Value) (w : World) (Ψ : Value → View → List OB → Prop) : Prop :=
  Calls P f args.toArray w (fun e w' => ∃ v new F, e = .returned v ∧ Tr w w' [] new ∧ View.fresh F w ∧ View.le F (View.of w') ∧ (∀ x ∈ new, ∀ b, x.ref = some b → F b = none) ∧ Ψ v F new)
theorem FnV.mono {P : Program} {f : FuncId} {args : List Value} {w : World} {Ψ Ψ' : Value → View → List OB → Prop} (h : FnV P f args w Ψ) (hk : ∀ v F n, Ψ v F n → Ψ' v F n) : FnV P f args w Ψ' :=
  Calls.mono h fun _ _ ⟨v, n, F, h1, h2, h3, h4, h5, h6⟩ => ⟨v, n, F, h1, h2, h3, h4, h5, hk _ _ _ h6⟩
theorem FnV.toC {P : Program} {f : FuncId} {args : List Value} {w : World} {Ψ : Value → View → List OB → Prop} {Φ : Value → List OB → Prop} (h : FnV P f args w Ψ) (hk : ∀ v F n, Ψ v F n → Φ v n) : FnC P f args w Φ :=
  Calls.mono h fun _ _ ⟨v, n, F, h1, h2, h3, h4, h5, h6⟩ => ⟨v, [], n, h1, h2, rfl, hk _ _ _ h6⟩

theorem s_callV {C : Pr} {fm : FM} {M : View} {own : List OB} {K : Value → View → List OB → Prop} {d : Option Nat} {ty : TypeId} {pos : String} {af : Array Edge} {g : Option (Nat × Bool)} {f : FuncId} {xs : List Operand} {vs : List Value} {ts : Array TypeId} {Ψ : Value → View → List OB → Prop} (hx : evs fm xs = some vs) (hg : goFunc C.P f = true)
    (hc : ∀ w, St C.wE C.mu M own w → FnV C.P f vs w Ψ) (k : ∀ v F new M', Ψ v F new → View.le M M' → View.le F M' → View.fresh F C.wE → K v M' (new ++ own)) :
    Stp C ⟨d, .call { callee := .value (.func f), args := xs.toArray, argTypes := ts }, ty, pos, af, g⟩ fm M own K := by
  intro a w hf hs
  unfold Okay
  rw [run_call hf hx hg w]
  refine Calls.mono (hc w hs) fun e w' ⟨v, new, F, h1, h2, h3, h4, h5, h6⟩ => ?_
  have hN := hs.call h2
  have hMF : ∀ b o, F b = some o → M b = none := fun b o e => by
    cases hm : M b with
    | none => rfl
    | some o' => exact absurd (lt_of_heap (hs.imm b o' hm)) (by have := h3 b o e; omega)
  have hl1 : View.le M (View.join M F) := fun b o e => by unfold View.join; rw [e]
  have hl2 : View.le F (View.join M F) := fun b o e => by unfold View.join; rw [hMF b o e]; exact e
  refine ⟨v, h1, View.join M F, new ++ own, ⟨hN.os, hN.tape, hN.output, hN.size, hN.frame, fun b o e => ?_, fun x hx b hb => ?_, hN.cells, hN.nodup⟩, k v F new _ h6 hl1 hl2 (fun b o e => Nat.le_trans hs.size (h3 b o e))⟩
  · unfold View.join at e
    split at e
    · rename_i o' hm; rw [← e]; exact hN.imm b o' hm
    · exact h4 b o e
  · obtain ⟨g1, g2⟩ := hN.sep x hx b hb
    refine ⟨?_, g2⟩
    unfold View.join
    rw [g1]
    rcases List.mem_append.1 hx with hx | hx
    · exact h5 x hx b hb
    · cases hF : F b with
      | none => rfl
      | some o => exact absurd (hs.ref_lt hx hb) (by have := h3 b o hF; omega)

/-- What such a function's end must show. -/
def EndsV (P : Program) (wE : World) (rs : List ResultVar) (Ψ : Value → View → List OB → Prop) : SP := fun fm M own =>
  ∃ vs new F, RVal P fm M own rs vs ∧ Pick own new ∧ View.le F M ∧ View.fresh F wE ∧ Ψ (tup vs) F new

theorem enterV {P : Program} {f : FuncId} {fn : Func} {c : Code} {n : Nat} {rs : List ResultVar} {args : List Value} {w : World} {Ψ : Value → View → List OB → Prop} {M : View}
    (hf : P.funcs[f]? = some fn) (hb : fn.body = some c) (hn : fn.ntmps = n) (hr : fn.results = rs.toArray) (ha : Nat.ble args.length n = true)
    (hM : View.le M (View.of w))
    (h : CW ⟨P, n, w, []⟩ c (params 0 args) M [] (EndsV P w rs Ψ) (fun _ _ _ _ => False) (EndsV P w rs Ψ)) :
    FnV P f args w Ψ := by
  refine calls_of_wp hf hb (Code.wp_mono (fun e a w' q => ?_) (h _ _ ⟨?_, rfl, ?_⟩ ⟨rfl, rfl, rfl, Nat.le_refl _, fun _ _ _ => rfl, hM, fun x hx => (by cases hx), fun x hx => (by cases hx), List.nodup_nil⟩))
  · have fin : ∀ (a : Act) (w' : World), real ⟨P, n, w, []⟩ (EndsV P w rs Ψ) a w' →
        a.defers = [] ∧ ∃ v, (results fn a.tmps).run P w' = .ok v w' ∧ ∃ u new F, Ending.returned v = .returned u ∧ Tr w w' [] new ∧ View.fresh F w ∧ View.le F (View.of w') ∧ (∀ x ∈ new, ∀ b, x.ref = some b → F b = none) ∧ Ψ u F new := by
      rintro a w' ⟨fm, M', own', h1, h2, vs, new, F, h3, h4, h5, h6, h7⟩
      have hp := h2.pick h4
      refine ⟨h1.defers, tup vs, results_of hr h3 h1 h2, tup vs, new, F, rfl, ⟨h2.os, h2.tape, h2.output, h2.size, fun b hb _ => h2.frame b hb (by simp), fun x hx => hp.cells x (by simpa using hx), fun x hx b hb => ?_, hp.nodup⟩, h6, fun b o e => h2.imm b o (h5 b o e), fun x hx b hb => View.none_of h5 (hp.sep x hx b hb).1, h7⟩
      rcases (hp.sep x hx b hb).2 with h8 | h8
      · exact h8
      · cases h8
    cases e with
    | normal => exact fin a w' q
    | ret => exact fin a w' q
    | exit i => obtain ⟨_, _, _, _, _, h⟩ := q; exact h.elim
    | goto l => exact q.elim
    | panic c => exact q.elim
    | outgrown => exact q.elim
  · have : args.length ≤ n := by simpa [Nat.ble_eq] using ha
    simp [hn]; omega
  · intro i v hv
    obtain ⟨_, h2⟩ := params_get args 0 i v hv
    simp only [Nat.sub_zero] at h2
    have hl : i < args.length := (List.getElem?_eq_some_iff.1 h2).1
    simp [Array.getElem?_append, hl]
    simpa [List.getElem?_eq_getElem hl] using h2
theorem endsV {P : Program} {wE : World} {fm : FM} {M : View} {own : List OB} {rs : List ResultVar} {Ψ : Value → View → List OB → Prop} {vs : List Value} (new : List OB) (F : View) (h : RVal P fm M own rs vs) (hn : Pick own new) (hF : View.le F M) (hf : View.fresh F wE) (hk : Ψ (tup vs) F new) :
    EndsV P wE rs Ψ fm M own := ⟨vs, new, F, h, hn, hF, hf, hk⟩
end Go.Fw
