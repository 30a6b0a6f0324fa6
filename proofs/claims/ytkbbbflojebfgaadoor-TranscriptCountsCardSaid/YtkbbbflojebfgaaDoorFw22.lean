/-
  The program logic, twenty-second part: closures that are walked where they are called.
-/
import Derived.Test.YtkbbbflojebfgaaDoorFw21
import Derived.Test.YtkbbbflojebfgaaDoorFw7
set_option linter.unusedSimpArgs false
set_option linter.unusedVariables false
namespace Go.Fw
open Go Go.RowKit

section
variable {C : Pr} {fm : FM} {M : View} {own : List OB} {K : Value → View → List OB → Prop} {d : Option Nat} {ty : TypeId} {pos : String} {af : Array Edge} {g : Option (Nat × Bool)}

theorem s_inlineC {f : FuncId} {fn : Func} {c0 : Operand} {c : Code} {n : Nat} {rs : List ResultVar} {xs : List Operand} {fs vs cs : List Value} {ts : Array TypeId} (hc0 : ev fm c0 = some (.func (.func f) fs.toArray cs.toArray)) (hx : evs fm xs = some vs) (hg : goFunc C.P f = true)
    (hf : C.P.funcs[f]? = some fn) (hb : fn.body = some c) (hn : fn.ntmps = n) (hr : fn.results = rs.toArray) (ha : Nat.ble (fs ++ vs ++ cs).length n = true)
    (h : CW ⟨C.P, n, C.wE, C.mu⟩ c (params 0 (fs ++ vs ++ cs)) M own (EndI C.P rs K) (fun _ _ _ _ => False) (EndI C.P rs K)) :
    Stp C ⟨d, .call { callee := .value c0, args := xs.toArray, argTypes := ts }, ty, pos, af, g⟩ fm M own K := by
  intro a w hfr hs
  unfold Okay
  rw [run_clo hfr hc0 hx hg w]
  generalize fs ++ vs ++ cs = us at *
  refine calls_of_wp hf hb (Code.wp_mono (fun e a w' q => ?_) (h _ _ ⟨?_, rfl, ?_⟩ hs))
  · have fin : ∀ (a : Act) (w' : World), real ⟨C.P, n, C.wE, C.mu⟩ (EndI C.P rs K) a w' →
        a.defers = [] ∧ ∃ v, (results fn a.tmps).run C.P w' = .ok v w' ∧ ∃ u, Ending.returned v = .returned u ∧ ∃ M' own', St C.wE C.mu M' own' w' ∧ K u M' own' := by
      rintro a w' ⟨fm', M', own', h1, h2, us, own1, own'', h3, hsub, h4, h5⟩
      exact ⟨h1.defers, tup us, results_of hr h3 h1 h2, tup us, rfl, M', own'', (h2.weaken (View.le.refl M') hsub).pick h4, h5⟩
    cases e with
    | normal => exact fin a w' q
    | ret => exact fin a w' q
    | exit i => obtain ⟨_, _, _, _, _, h⟩ := q; exact h.elim
    | goto l => exact q.elim
    | panic c => exact q.elim
    | outgrown => exact q.elim
  · have : us.length ≤ n := by simpa [Nat.ble_eq] using ha
    simp [hn]; omega
  · intro i v hv
    obtain ⟨_, h2⟩ := params_get us 0 i v hv
    simp only [Nat.sub_zero] at h2
    have hl : i < us.length := (List.getElem?_eq_some_iff.1 h2).1
    simp [Array.getElem?_append, hl]
    simpa [List.getElem?_eq_getElem hl] using h2

theorem LEq.refl : ∀ (l : List Value), LEq l l
  | [] => .nil
  | _ :: l => .cons (LEq.refl l)
/-- A row of one element of several cells. -/
theorem s_buildSl1 {t e sz : Nat} {x : Operand} {z : Value} {zs cs : List Value} (hx : ev fm x = some (.agg cs.toArray)) (hu : tdSlice C.P t = some e) (hs : sizeB C.P e = some sz) (hz : zeroB C.P e = some z) (hzc : LEq z.cells.toList zs) (hlen : zs.length = sz) (h0 : Nat.blt 0 sz = true) (hn : 1 * sz ≤ 16777216)
    (hl : cs.length = sz) (k : ∀ b, K (.slice (some ⟨b, 0, none⟩) 1 1) M (⟨some b, cs, e⟩ :: own)) :
    Stp C ⟨d, .buildSlice t 1 #[(0, x)], ty, pos, af, g⟩ fm M own K := by
  refine s_buildSl (ps := [(0, x)]) (vs := [(0, .agg cs.toArray)]) (z0 := zs) (by simp [evP, hx]) hu hs hz hzc hlen h0 hn ?_ (.agg (off := 0) (n := sz) ?_ hl ?_ ?_ .nil) k
  · have : (List.replicate 1 zs).flatten = zs := by simp
    rw [this]; exact LEq.refl _
  · simp
  · have := setN_mid cs [] zs [] (by rw [hl, hlen])
    simpa using this
  · omega
end
end Go.Fw
