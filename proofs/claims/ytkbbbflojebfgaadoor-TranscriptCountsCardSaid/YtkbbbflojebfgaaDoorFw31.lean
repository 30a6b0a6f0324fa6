/-
  The program logic, thirty-first part: calls that take a row of ours and hand back a row in its place (as append does).
-/
import Derived.Test.YtkbbbflojebfgaaDoorFw30
set_option linter.unusedSimpArgs false
set_option linter.unusedVariables false
namespace Go.Fw
open Go Go.RowKit

theorem Pick.skip1 {x : OB} : ∀ {l : List OB}, Pick (x :: l) l
  | [] => Pick.nil
  | y :: l => Pick.cons (Spl.there Spl.here) (Pick.skip1 (x := x) (l := l))
theorem Pick.skip2 {x y : OB} : ∀ {l : List OB}, Pick (x :: y :: l) l
  | [] => Pick.nil
  | z :: l => Pick.cons (Spl.there (Spl.there Spl.here)) (Pick.skip2 (x := x) (y := y) (l := l))

/-- The call takes the block x (there, or none) and hands back the block y in its place; all else is as it was. -/
def FnA (P : Program) (f : FuncId) (args : List Value) (w : World) (x : OB) (Ψ : Value → OB → Prop) : Prop :=
  Calls P f args.toArray w (fun e w' => ∃ v y, e = .returned v ∧ w'.os = w.os ∧ w'.tape = w.tape ∧ w'.output = w.output ∧ w.heap.size ≤ w'.heap.size ∧ (∀ b, b < w.heap.size → x.ref ≠ some b → w'.heap[b]? = w.heap[b]?) ∧ y.ok w' ∧ (∀ b, y.ref = some b → x.ref = some b ∨ w.heap.size ≤ b) ∧ Ψ v y)
theorem FnA.mono {P : Program} {f : FuncId} {args : List Value} {w : World} {x : OB} {Ψ Ψ' : Value → OB → Prop} (h : FnA P f args w x Ψ) (hk : ∀ v y, Ψ v y → Ψ' v y) : FnA P f args w x Ψ' :=
  Calls.mono h fun _ _ ⟨v, y, h1, h2, h3, h4, h5, h6, h7, h8, h9⟩ => ⟨v, y, h1, h2, h3, h4, h5, h6, h7, h8, hk _ _ h9⟩

section
variable {C : Pr} {fm : FM} {M : View} {own : List OB} {K : Value → View → List OB → Prop} {d : Option Nat} {ty : TypeId} {pos : String} {af : Array Edge} {g : Option (Nat × Bool)}
theorem s_callA {f : FuncId} {xs : List Operand} {vs : List Value} {ts : Array TypeId} {x : OB} {Ψ : Value → OB → Prop} {p q : List OB} (hx : evs fm xs = some vs) (hg : goFunc C.P f = true)
    (hc : ∀ w, St C.wE C.mu M own w → FnA C.P f vs w x Ψ) (hp : Spl own x p q) (k : ∀ v y, Ψ v y → K v M (p ++ y :: q)) :
    Stp C ⟨d, .call { callee := .value (.func f), args := xs.toArray, argTypes := ts }, ty, pos, af, g⟩ fm M own K := by
  intro a w hf hs
  unfold Okay
  rw [run_call hf hx hg w]
  refine Calls.mono (hc w hs) fun e w' ⟨v, y, h1, h2, h3, h4, h5, h6, h7, h8, h9⟩ => ?_
  rw [hp.eq] at hs
  refine ⟨v, h1, M, p ++ y :: q, ?_, k v y h9⟩
  have hxm : x ∈ p ++ x :: q := by simp
  have hne : ∀ z ∈ p ++ q, ∀ b, z.ref = some b → x.ref ≠ some b := by
    intro z hz b hb hxb
    have hnd := hs.nodup
    rw [List.filterMap_append, List.filterMap_cons_some hxb] at hnd
    have := List.perm_middle.nodup_iff.1 hnd
    rw [List.nodup_cons] at this
    refine this.1 ?_
    rw [← List.filterMap_append]
    exact List.mem_filterMap.2 ⟨z, hz, hb⟩
  have hzmem : ∀ z ∈ p ++ q, z ∈ p ++ x :: q := fun z hz => by
    rcases List.mem_append.1 hz with h | h
    · exact List.mem_append_left _ h
    · exact List.mem_append_right _ (List.mem_cons_of_mem _ h)
  have hsplit : ∀ z ∈ p ++ y :: q, z = y ∨ z ∈ p ++ q := fun z hz => by
    rcases List.mem_append.1 hz with h | h
    · exact .inr (List.mem_append_left _ h)
    · rcases List.mem_cons.1 h with h | h
      · exact .inl h
      · exact .inr (List.mem_append_right _ h)
  refine ⟨h2.trans hs.os, h3.trans hs.tape, h4.trans hs.output, Nat.le_trans hs.size h5, fun b hb hm => ?_, fun b o e => ?_, fun z hz b hb => ?_, fun z hz => ?_, ?_⟩
  · rw [h6 b (Nat.lt_of_lt_of_le hb hs.size) fun e => ?_]
    · exact hs.frame b hb hm
    · rcases (hs.sep x hxm b e).2 with h | h
      · omega
      · exact hm h
  · rw [h6 b (lt_of_heap (hs.imm b o e)) fun e2 => ?_]
    · exact hs.imm b o e
    · have := (hs.sep x hxm b e2).1
      rw [e] at this
      cases this
  · rcases hsplit z hz with rfl | hz
    · rcases h8 b hb with h | h
      · exact hs.sep x hxm b h
      · refine ⟨?_, .inl (Nat.le_trans hs.size h)⟩
        cases e : M b with
        | none => rfl
        | some o => have := lt_of_heap (hs.imm b o e); omega
    · exact hs.sep z (hzmem z hz) b hb
  · rcases hsplit z hz with rfl | hz
    · exact h7
    · refine OB.ok_mono (hs.cells z (hzmem z hz)) fun b hb => ?_
      exact h6 b (hs.ref_lt (hzmem z hz) hb) (hne z hz b hb)
  · have hnd := hs.nodup
    have hpq : ((p ++ q).filterMap OB.ref).Nodup := by
      refine List.Sublist.nodup ?_ hnd
      exact (List.Sublist.filterMap _ (List.Sublist.append (List.Sublist.refl _) (List.sublist_cons_self _ _)))
    rw [List.filterMap_append] at hpq ⊢
    cases hy : y.ref with
    | none => rw [List.filterMap_cons_none hy]; exact hpq
    | some b =>
      rw [List.filterMap_cons_some hy]
      refine List.perm_middle.nodup_iff.2 (List.nodup_cons.2 ⟨fun hm => ?_, hpq⟩)
      rw [← List.filterMap_append] at hm
      obtain ⟨z, hz, hzb⟩ := List.mem_filterMap.1 hm
      rcases h8 b hy with h | h
      · exact hne z hz b hzb h
      · have := hs.ref_lt (hzmem z hz) hzb
        omega
end

def EndsA (P : Program) (rs : List ResultVar) (Ψ : Value → OB → Prop) : SP := fun fm M own =>
  ∃ vs y, RVal P fm M own rs vs ∧ Pick own [y] ∧ Ψ (tup vs) y
theorem endsA {P : Program} {fm : FM} {M : View} {own : List OB} {rs : List ResultVar} {Ψ : Value → OB → Prop} {vs : List Value} (y : OB) (h : RVal P fm M own rs vs) (hn : Pick own [y]) (hk : Ψ (tup vs) y) : EndsA P rs Ψ fm M own := ⟨vs, y, h, hn, hk⟩
theorem enterA {P : Program} {f : FuncId} {fn : Func} {c : Code} {n : Nat} {rs : List ResultVar} {args : List Value} {w : World} {Ψ : Value → OB → Prop} {M : View} {x : OB}
    (hf : P.funcs[f]? = some fn) (hb : fn.body = some c) (hn : fn.ntmps = n) (hr : fn.results = rs.toArray) (ha : Nat.ble args.length n = true)
    (hM : View.le M (View.of w)) (hok : x.ok w) (hsep : ∀ b, x.ref = some b → M b = none)
    (h : CW ⟨P, n, w, x.ref.toList⟩ c (params 0 args) M [x] (EndsA P rs Ψ) (fun _ _ _ _ => False) (EndsA P rs Ψ)) : FnA P f args w x Ψ := by
  refine calls_of_wp hf hb (Code.wp_mono (fun e a w' q => ?_) (h _ _ ⟨?_, rfl, ?_⟩ ⟨rfl, rfl, rfl, Nat.le_refl _, fun _ _ _ => rfl, hM, fun z hz b hb => ?_, fun z hz => ?_, ?_⟩))
  · have fin : ∀ (a : Act) (w' : World), real ⟨P, n, w, x.ref.toList⟩ (EndsA P rs Ψ) a w' →
        a.defers = [] ∧ ∃ v, (results fn a.tmps).run P w' = .ok v w' ∧ ∃ u y, Ending.returned v = .returned u ∧ w'.os = w.os ∧ w'.tape = w.tape ∧ w'.output = w.output ∧ w.heap.size ≤ w'.heap.size ∧ (∀ b, b < w.heap.size → x.ref ≠ some b → w'.heap[b]? = w.heap[b]?) ∧ y.ok w' ∧ (∀ b, y.ref = some b → x.ref = some b ∨ w.heap.size ≤ b) ∧ Ψ u y := by
      rintro a w' ⟨fm, M', own', h1, h2, vs, y, h3, h4, h5⟩
      have hp := h2.pick h4
      refine ⟨h1.defers, tup vs, results_of hr h3 h1 h2, tup vs, y, rfl, h2.os, h2.tape, h2.output, h2.size, fun b hb hx => h2.frame b hb fun hm => ?_, hp.cells y (by simp), fun b hb => ?_, h5⟩
      · cases hxr : x.ref with
        | none => rw [hxr] at hm; cases hm
        | some k =>
          rw [hxr] at hm
          have : b = k := by simpa using hm
          exact hx (by rw [hxr, this])
      · rcases (hp.sep y (by simp) b hb).2 with h | h
        · exact .inr h
        · left
          cases hxr : x.ref with
          | none => rw [hxr] at h; cases h
          | some k =>
            rw [hxr] at h
            have : b = k := by simpa using h
            rw [this]
    cases e with
    | normal => exact fin a w' q
    | ret => exact fin a w' q
    | exit i => obtain ⟨_, _, _, _, _, h⟩ := q; exact h.elim
    | goto l => exact q.elim
    | panic c => exact q.elim
    | outgrown => exact q.elim
  · have : args.length ≤ n := by simpa [Nat.ble_eq] using ha
    simp [hn]; omega
  · intro i v hv
    obtain ⟨_, h2⟩ := params_get args 0 i v hv
    simp only [Nat.sub_zero] at h2
    have hl : i < args.length := (List.getElem?_eq_some_iff.1 h2).1
    simp [Array.getElem?_append, hl]
    simpa [List.getElem?_eq_getElem hl] using h2
  · obtain rfl := List.mem_singleton.1 hz
    exact ⟨hsep b hb, .inr (by rw [hb]; simp)⟩
  · obtain rfl := List.mem_singleton.1 hz
    exact hok
  · cases hxr : x.ref with
    | none => rw [List.filterMap_cons_none hxr]; exact List.nodup_nil
    | some k => rw [List.filterMap_cons_some hxr]; simp
end Go.Fw
