/-
  Texts joined: Fw14 Fw15.
-/
import Derived.Test.YtkkfgeekdaalmaaDoorYgh
import Derived.Lib.Builder
import Derived.Lib.UnsafeStr
import Derived.Laws.Externs
set_option linter.unusedSimpArgs false
set_option linter.unusedVariables false
namespace Go.Fw
open Go Go.RowKit
/-- The end of a function that is walked where it is called. -/
def EndI (P : Program) (rs : List ResultVar) (K : Value → View → List OB → Prop) : SP := fun fm M own =>
  ∃ vs own1 own', RVal P fm M own rs vs ∧ own1.Sublist own ∧ Pick own1 own' ∧ K (tup vs) M own'
section
variable {C : Pr} {fm : FM} {M : View} {own : List OB} {K : Value → View → List OB → Prop} {d : Option Nat} {ty : TypeId} {pos : String} {af : Array Edge} {g : Option (Nat × Bool)}
theorem s_inline {f : FuncId} {fn : Func} {c : Code} {n : Nat} {rs : List ResultVar} {xs : List Operand} {vs : List Value} {ts : Array TypeId} (hx : evs fm xs = some vs) (hg : goFunc C.P f = true)
    (hf : C.P.funcs[f]? = some fn) (hb : fn.body = some c) (hn : fn.ntmps = n) (hr : fn.results = rs.toArray) (ha : Nat.ble vs.length n = true)
    (h : CW ⟨C.P, n, C.wE, C.mu⟩ c (params 0 vs) M own (EndI C.P rs K) (fun _ _ _ _ => False) (EndI C.P rs K)) :
    Stp C ⟨d, .call { callee := .value (.func f), args := xs.toArray, argTypes := ts }, ty, pos, af, g⟩ fm M own K := by
  intro a w hfr hs
  unfold Okay
  rw [run_call hfr hx hg w]
  refine calls_of_wp hf hb (Code.wp_mono (fun e a w' q => ?_) (h _ _ ⟨?_, rfl, ?_⟩ hs))
  · have fin : ∀ (a : Act) (w' : World), real ⟨C.P, n, C.wE, C.mu⟩ (EndI C.P rs K) a w' →
        a.defers = [] ∧ ∃ v, (results fn a.tmps).run C.P w' = .ok v w' ∧ ∃ u, Ending.returned v = .returned u ∧ ∃ M' own', St C.wE C.mu M' own' w' ∧ K u M' own' := by
      rintro a w' ⟨fm', M', own', h1, h2, us, own1, own'', h3, hsub, h4, h5⟩
      exact ⟨h1.defers, tup us, results_of hr h3 h1 h2, tup us, rfl, M', own'', (h2.weaken (View.le.refl M') hsub).pick h4, h5⟩
    cases e with
    | normal => exact fin a w' q
    | ret => exact fin a w' q
    | exit i => obtain ⟨_, _, _, _, _, h⟩ := q; exact h.elim
    | goto l => exact q.elim
    | panic c => exact q.elim
    | outgrown => exact q.elim
  · have : vs.length ≤ n := by simpa [Nat.ble_eq] using ha
    simp [hn]; omega
  · intro i v hv
    obtain ⟨_, h2⟩ := params_get vs 0 i v hv
    simp only [Nat.sub_zero] at h2
    have hl : i < vs.length := (List.getElem?_eq_some_iff.1 h2).1
    simp [Array.getElem?_append, hl]
    simpa [List.getElem?_eq_getElem hl] using h2
theorem endIS {P : Program} {rs : List ResultVar} {us : List Value} {own' : List OB} (h : RVal P fm M own rs us) (hp : own'.Sublist own) (hk : K (tup us) M own') : EndI P rs K fm M own := ⟨us, own', own', h, hp, Pick.refl, hk⟩
theorem s_nilCheck {x : Operand} {a : Addr} (hx : ev fm x = some (.pointer (some a))) : Pur C ⟨d, .nilCheck x, ty, pos, af, g⟩ fm M own (.pointer (some a)) := by
  intro act w hf _
  simp [execOp, hf.eval hx]
def bytesOf (xs : List Int) : List UInt8 := xs.map fun x => UInt8.ofNat x.toNat
def strOf (xs : List Int) : ByteArray := ⟨(bytesOf xs).toArray⟩
end
end Go.Fw
set_option linter.unusedSimpArgs false
set_option linter.unusedVariables false
namespace Go.Fw
open Go Go.RowKit
section
variable {C : Pr} {fm : FM} {M : View} {own : List OB} {K : Value → View → List OB → Prop} {d : Option Nat} {ty : TypeId} {pos : String} {af : Array Edge} {g : Option (Nat × Bool)}
theorem s_indexS {t : TypeId} {x y : Operand} {ik : IntKind} {i : Int} {s : ByteArray} {v : Int} (hx : ev fm x = some (.string s)) (hy : ev fm y = some (.int ik i)) (ht : C.P.underlying t = some .string) (hi : 0 ≤ i ∧ i < s.size) (hv : ((s.data.toList.getD i.toNat 0).toNat : Int) = v) :
    Pur C ⟨d, .index t x y, ty, pos, af, g⟩ fm M own (.int .u8 v) := by
  intro act w hf _
  have hr := run_index_string (P := C.P) w t s ik i ht
  rw [dif_pos hi] at hr
  have h2 : i.toNat < s.size := by omega
  have e : (s[i.toNat]'h2) = s.data.toList.getD i.toNat 0 := by
    have h3 : i.toNat < s.data.size := h2
    simp [List.getD, ByteArray.getElem_eq_getElem_data, Array.getElem?_eq_getElem h3]
  rw [e, hv] at hr
  simp only [execOp, hf.eval hx, hf.eval hy, Sem.run_bind, hr, Result.andThen_ok, Sem.run_pure]
theorem s_eqlStr {t : TypeId} {t' : TypeId} {x y : Operand} {a b : ByteArray} (hx : ev fm x = some (.string a)) (hy : ev fm y = some (.string b)) :
    Pur C ⟨d, .binOp .eql t x y t', ty, pos, af, g⟩ fm M own (.bool (a.toList == b.toList)) := by
  intro act w hf _
  simp only [execOp, hf.eval hx, hf.eval hy, Sem.run_bind, eqGuard_at_string, binOp_string_eql, Sem.run_pure, Result.andThen_ok]
end
end Go.Fw
