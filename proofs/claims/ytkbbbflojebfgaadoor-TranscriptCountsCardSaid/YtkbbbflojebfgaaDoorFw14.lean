/-
  The program logic, fourteenth part: calls that are walked where they stand; pointers; strings.
-/
import Derived.Test.YtkbbbflojebfgaaDoorFw13
import Derived.Lib.Builder
import Derived.Lib.UnsafeStr
import Derived.Laws.Externs
set_option linter.unusedSimpArgs false
set_option linter.unusedVariables false
namespace Go.Fw
open Go Go.RowKit

/-- The end of a function that is walked where it is called. -/
def EndI (P : Program) (rs : List ResultVar) (K : Value → View → List OB → Prop) : SP := fun fm M own =>
  ∃ vs own1 own', RVal P fm M own rs vs ∧ own1.Sublist own ∧ Pick own1 own' ∧ K (tup vs) M own'

section
variable {C : Pr} {fm : FM} {M : View} {own : List OB} {K : Value → View → List OB → Prop} {d : Option Nat} {ty : TypeId} {pos : String} {af : Array Edge} {g : Option (Nat × Bool)}

theorem s_inline {f : FuncId} {fn : Func} {c : Code} {n : Nat} {rs : List ResultVar} {xs : List Operand} {vs : List Value} {ts : Array TypeId} (hx : evs fm xs = some vs) (hg : goFunc C.P f = true)
    (hf : C.P.funcs[f]? = some fn) (hb : fn.body = some c) (hn : fn.ntmps = n) (hr : fn.results = rs.toArray) (ha : Nat.ble vs.length n = true)
    (h : CW ⟨C.P, n, C.wE, C.mu⟩ c (params 0 vs) M own (EndI C.P rs K) (fun _ _ _ _ => False) (EndI C.P rs K)) :
    Stp C ⟨d, .call { callee := .value (.func f), args := xs.toArray, argTypes := ts }, ty, pos, af, g⟩ fm M own K := by
  intro a w hfr hs
  unfold Okay
  rw [run_call hfr hx hg w]
  refine calls_of_wp hf hb (Code.wp_mono (fun e a w' q => ?_) (h _ _ ⟨?_, rfl, ?_⟩ hs))
  · have fin : ∀ (a : Act) (w' : World), real ⟨C.P, n, C.wE, C.mu⟩ (EndI C.P rs K) a w' →
        a.defers = [] ∧ ∃ v, (results fn a.tmps).run C.P w' = .ok v w' ∧ ∃ u, Ending.returned v = .returned u ∧ ∃ M' own', St C.wE C.mu M' own' w' ∧ K u M' own' := by
      rintro a w' ⟨fm', M', own', h1, h2, us, own1, own'', h3, hsub, h4, h5⟩
      exact ⟨h1.defers, tup us, results_of hr h3 h1 h2, tup us, rfl, M', own'', (h2.weaken (View.le.refl M') hsub).pick h4, h5⟩
    cases e with
    | normal => exact fin a w' q
    | ret => exact fin a w' q
    | exit i => obtain ⟨_, _, _, _, _, h⟩ := q; exact h.elim
    | goto l => exact q.elim
    | panic c => exact q.elim
    | outgrown => exact q.elim
  · have : vs.length ≤ n := by simpa [Nat.ble_eq] using ha
    simp [hn]; omega
  · intro i v hv
    obtain ⟨_, h2⟩ := params_get vs 0 i v hv
    simp only [Nat.sub_zero] at h2
    have hl : i < vs.length := (List.getElem?_eq_some_iff.1 h2).1
    simp [Array.getElem?_append, hl]
    simpa [List.getElem?_eq_getElem hl] using h2

theorem endI {P : Program} {rs : List ResultVar} {us : List Value} {own' : List OB} (h : RVal P fm M own rs us) (hp : Pick own own') (hk : K (tup us) M own') : EndI P rs K fm M own := ⟨us, own, own', h, List.Sublist.refl _, hp, hk⟩
theorem endIS {P : Program} {rs : List ResultVar} {us : List Value} {own' : List OB} (h : RVal P fm M own rs us) (hp : own'.Sublist own) (hk : K (tup us) M own') : EndI P rs K fm M own := ⟨us, own', own', h, hp, Pick.refl, hk⟩

/-! #### pointers -/
theorem s_eqlPn {t e : TypeId} {t' : TypeId} {x : Operand} (hx : ev fm x = some (.pointer none)) (ht : C.P.underlying t = some (.pointer e)) :
    Pur C ⟨d, .binOp .eql t x (.const (.pointer none)) t', ty, pos, af, g⟩ fm M own (.bool true) := by
  intro act w hf _
  have run : ∀ (w : World), (binOp .eql t (.pointer none) (.pointer none)).run C.P w = .ok (.bool true) w := by
    intro w
    have key : ∀ n' : Nat, (Op.equalIn (n' + 1) t (.pointer none) (.pointer none)).run C.P w = .ok true w := fun n' => by simp [Op.equalIn, run_underlying ht]
    have h := key 9999
    have e : binOp .eql t (.pointer none) (.pointer none) = (do pure (.bool (← Op.equalIn 10000 t (.pointer none) (.pointer none)))) := rfl
    rw [e]
    simp only [Sem.run_bind, h, Result.andThen_ok, Sem.run_pure]
  have e1 := hf.eval hx
  have e2 : act.eval (.const (.pointer none)) = .pointer none := rfl
  simp only [execOp, e1, e2, eqGuard_at_pointer, Sem.run_bind, Sem.run_pure, Result.andThen_ok, run w]
theorem s_eqlPs {t e : TypeId} {t' : TypeId} {x : Operand} {a : Addr} (hx : ev fm x = some (.pointer (some a))) (ht : C.P.underlying t = some (.pointer e)) :
    Pur C ⟨d, .binOp .eql t x (.const (.pointer none)) t', ty, pos, af, g⟩ fm M own (.bool false) := by
  intro act w hf _
  have run : ∀ (w : World), (binOp .eql t (.pointer (some a)) (.pointer none)).run C.P w = .ok (.bool false) w := by
    intro w
    have key : ∀ n' : Nat, (Op.equalIn (n' + 1) t (.pointer (some a)) (.pointer none)).run C.P w = .ok false w := fun n' => by simp [Op.equalIn, run_underlying ht]
    have h := key 9999
    have e : binOp .eql t (.pointer (some a)) (.pointer none) = (do pure (.bool (← Op.equalIn 10000 t (.pointer (some a)) (.pointer none)))) := rfl
    rw [e]
    simp only [Sem.run_bind, h, Result.andThen_ok, Sem.run_pure]
  have e1 := hf.eval hx
  have e2 : act.eval (.const (.pointer none)) = .pointer none := rfl
  simp only [execOp, e1, e2, eqGuard_at_pointer, Sem.run_bind, Sem.run_pure, Result.andThen_ok, run w]
theorem s_neqPP {t e : TypeId} {t' : TypeId} {x y : Operand} {a : Addr} {n : Nat} (hx : ev fm x = some (.pointer (some a))) (hy : ev fm y = some (.pointer (some a))) (ht : C.P.underlying t = some (.pointer e)) (he : sizeB C.P e = some n) :
    Pur C ⟨d, .binOp .neq t x y t', ty, pos, af, g⟩ fm M own (.bool false) := by
  intro act w hf _
  obtain ⟨i, hi⟩ : ∃ i, C.P.info? e = some i := by
    unfold sizeB at he; cases h : C.P.info? e with
    | none => rw [h] at he; cases he
    | some i => exact ⟨i, rfl⟩
  have e1 := hf.eval hx
  have e2 := hf.eval hy
  simp only [execOp, e1, e2, eqGuard_at_pointer, Sem.run_bind, Sem.run_pure, Result.andThen_ok, Lib.run_neq_ptr_same w a ht hi]
theorem s_nilCheck {x : Operand} {a : Addr} (hx : ev fm x = some (.pointer (some a))) : Pur C ⟨d, .nilCheck x, ty, pos, af, g⟩ fm M own (.pointer (some a)) := by
  intro act w hf _
  simp [execOp, hf.eval hx]
theorem s_extern {f : FuncId} {fn : Func} {e : Array Value → Sem Value} {xs : List Operand} {vs : List Value} {ts : Array TypeId} {v : Value} (hx : evs fm xs = some vs) (hf : C.P.funcs[f]? = some fn) (hname : (fn.name == "runtime.NumGoroutine") = false)
    (hb : fn.body.isNone = true) (hn : Extern.findNext fn = none) (he : Extern.find fn = some e) (hr : ∀ w, (e vs.toArray).run C.P w = .ok v w) (k : K v M own) :
    Stp C ⟨d, .call { callee := .value (.func f), args := xs.toArray, argTypes := ts }, ty, pos, af, g⟩ fm M own K := by
  intro a w hfr hs
  have hrun : (execOp a.eval ⟨d, .call { callee := .value (.func f), args := xs.toArray, argTypes := ts }, ty, pos, af, g⟩).run C.P w = .ok (.value v) w := by
    simp [execOp, resolve, Act.eval, Deferred.ofValue, invoke, evs_eq hfr hx, run_callFunc_extern hf hname hb hn he, hr w]
  unfold Okay
  rw [hrun]
  exact ⟨M, own, hs, k⟩

theorem shape_of {w : World} {b : Nat} {cs : List Value} {T : TypeId} (h : OB.ok ⟨some b, cs, T⟩ w) : w.shape? b = some (T, cs.length) := by
  obtain ⟨fz, _, h⟩ := OB.ok_some h
  simp [World.shape?, h]
theorem s_toUns {src dst t : TypeId} {n : Nat} {x : Operand} {b : Nat} {cs : List Value} {T : TypeId} (hx : ev fm x = some (.pointer (some ⟨b, 0, none⟩))) (hs : C.P.underlying src = some (.pointer t)) (hd : C.P.underlying dst = some .unsafePointer) (ht : sizeB C.P t = some n) (hn : Nat.blt 0 n = true) (ho : Has own ⟨some b, cs, T⟩) (hl : Nat.blt 0 cs.length = true) :
    Pur C ⟨d, .convert src dst x, ty, pos, af, g⟩ fm M own (.pointer (some ⟨b, 0, none⟩)) := by
  intro act w hf hst
  obtain ⟨i, hi⟩ : ∃ i, C.P.info? t = some i := by
    unfold sizeB at ht; cases h : C.P.info? t with
    | none => rw [h] at ht; cases ht
    | some i => exact ⟨i, rfl⟩
  have hsz : i.size = n := by unfold sizeB at ht; rw [hi] at ht; injection ht
  have h0 : 0 < n := by simp [Nat.blt] at hn; omega
  have h1 : 0 < cs.length := by simp [Nat.blt] at hl; omega
  have := Lib.run_to_unsafe (P := C.P) w ⟨b, 0, none⟩ hs hd hi (by rw [hsz]; exact Nat.ne_of_gt h0) (shape_of (hst.ok_ ho)) h1
  simp only [execOp, hf.eval hx, Sem.run_bind, this, Result.andThen_ok, Sem.run_pure]
theorem s_fromUns {src dst u : TypeId} {n : Nat} {x : Operand} {b : Nat} {cs : List Value} {T : TypeId} (hx : ev fm x = some (.pointer (some ⟨b, 0, none⟩))) (hs : C.P.underlying src = some .unsafePointer) (hd : C.P.underlying dst = some (.pointer u)) (hu : sizeB C.P u = some n) (ho : Has own ⟨some b, cs, T⟩)
    (hl : liesAt C.P C.P.depth T (cs.length / C.P.cellsOf T) 0 u 1 = true) :
    Pur C ⟨d, .convert src dst x, ty, pos, af, g⟩ fm M own (.pointer (some ⟨b, 0, none⟩)) := by
  intro act w hf hst
  obtain ⟨i, hi⟩ : ∃ i, C.P.info? u = some i := by
    unfold sizeB at hu; cases h : C.P.info? u with
    | none => rw [h] at hu; cases hu
    | some i => exact ⟨i, rfl⟩
  have := Lib.run_from_unsafe (P := C.P) w ⟨b, 0, none⟩ hs hd hi (shape_of (hst.ok_ ho)) hl
  simp only [execOp, hf.eval hx, Sem.run_bind, this, Result.andThen_ok, Sem.run_pure]

/-! #### strings out of rows of bytes -/
theorem St.gone {wE : World} {mu : List Nat} {w w' : World} {b : Nat} {cs : List Value} {T : TypeId} {p q : List OB} (h : St wE mu M own w) (hp : Spl own ⟨some b, cs, T⟩ p q) (ho : ∀ k, k ≠ b → w'.heap[k]? = w.heap[k]?) (hs : w'.heap.size = w.heap.size)
    (h1 : w'.os = w.os) (h2 : w'.tape = w.tape) (h3 : w'.output = w.output) : St wE mu M (p ++ q) w' := by
  have e := hp.eq
  subst e
  have hb' := h.sep ⟨some b, cs, T⟩ (by simp) b rfl
  have hnd := h.nodup
  simp only [List.filterMap_append, List.filterMap_cons] at hnd
  have hne : ∀ x, (x ∈ p ∨ x ∈ q) → x.ref ≠ some b := by
    intro x hx e
    have h4 := List.nodup_append.1 hnd
    rcases hx with hx | hx
    · exact h4.2.2 b (List.mem_filterMap.2 ⟨x, hx, e⟩) b (by simp) rfl
    · have := (List.nodup_cons.1 h4.2.1).1
      exact this (List.mem_filterMap.2 ⟨x, hx, e⟩)
  refine ⟨h1.trans h.os, h2.trans h.tape, h3.trans h.output, by rw [hs]; exact h.size, fun k hk hm => ?_, fun k o e => ?_, fun x hx k hk => ?_, fun x hx => ?_, ?_⟩
  · have : k ≠ b := fun e => by subst e; rcases hb'.2 with h5 | h5; omega; exact hm h5
    rw [ho k this]; exact h.frame k hk hm
  · have : k ≠ b := fun e' => by subst e'; rw [hb'.1] at e; cases e
    rw [ho k this]; exact h.imm k o e
  · rcases List.mem_append.1 hx with hx | hx
    · exact h.sep x (by simp [hx]) k hk
    · exact h.sep x (by simp [hx]) k hk
  · have hx' : x ∈ p ∨ x ∈ q := List.mem_append.1 hx
    refine OB.ok_mono (h.cells x (by rcases hx' with hx | hx <;> simp [hx])) fun k hk => ho k fun e => hne x hx' (e ▸ hk)
  · rw [List.filterMap_append]
    exact hnd.sublist (List.Sublist.append (List.Sublist.refl _) (List.sublist_cons_self _ _))

def bytesOf (xs : List Int) : List UInt8 := xs.map fun x => UInt8.ofNat x.toNat
def strOf (xs : List Int) : ByteArray := ⟨(bytesOf xs).toArray⟩
theorem bytesOf_length (xs : List Int) : (bytesOf xs).length = xs.length := by simp [bytesOf]

theorem s_sliceData {x : Operand} {t : TypeId} {a : Addr} {n c : Nat} (hx : ev fm x = some (.slice (some a) n c)) (hc : 0 < c) : Pur C ⟨d, .call { callee := .builtin .unsafeSliceData, args := #[x], argTypes := #[t] }, ty, pos, af, g⟩ fm M own (.pointer (some a)) := by
  intro act w hf _
  have := Lib.run_unsafeSliceData_row (P := C.P) w #[t] ty a n c (by omega)
  simp [execOp, resolve, invoke, builtin, hf.eval hx, this]

theorem s_unsafeString {x y : Operand} {pt it e : TypeId} {b : Nat} {xs : List Int} {sp : List Value} {p q : List OB} (hx : ev fm x = some (.pointer (some ⟨b, 0, none⟩))) (hy : ev fm y = some (.int .i64 (xs.length : Nat))) (hp : Spl own ⟨some b, flat (eK .u8) xs ++ sp, e⟩ p q)
    (ht : C.P.underlying pt = some (.pointer e)) (hc : C.P.cellsOf e = 1) (h0 : 0 < xs.length) (h63 : xs.length ≤ 9223372036854775807) (hb : ∀ x ∈ xs, 0 ≤ x ∧ x ≤ 255) (k : K (.string (strOf xs)) M (p ++ q)) :
    Stp C ⟨d, .call { callee := .builtin .unsafeString, args := #[x, y], argTypes := #[pt, it] }, ty, pos, af, g⟩ fm M own K := by
  intro a w hf hs
  have hok : OB.ok ⟨some b, flat (eK .u8) xs ++ sp, e⟩ w := hs.cells _ (by rw [hp.eq]; simp)
  have hl := bytesOf_length xs
  have hrun := Lib.run_unsafeString_row (P := C.P) w pt it ty e ht hc b _ (shape_of hok) (bytesOf xs) (by intro h; rw [h] at hl; simp at hl; omega) (by rw [hl, List.length_append, flatK_length]; omega) (by rw [hl]; exact h63)
    (fun j x hj => by
      have hj' : j < xs.length := by rw [← hl]; exact (List.getElem?_eq_some_iff.1 hj).1
      obtain ⟨fz, _, hh⟩ := OB.ok_some hok
      have h1 : (flat (eK .u8) xs ++ sp)[j]? = some (.int .u8 (xs.getD j 0)) := by rw [List.getElem?_append_left (by rw [flatK_length]; exact hj'), flatK_get hj']
      have h2 : xs.getD j 0 = (x.toNat : Int) := by
        have hx2 := hb xs[j] (List.getElem_mem hj')
        have : bytesOf xs = xs.map fun x => UInt8.ofNat x.toNat := rfl
        rw [this, List.getElem?_map, List.getElem?_eq_getElem hj'] at hj
        simp only [Option.map_some, Option.some.injEq] at hj
        subst hj
        simp only [List.getD, List.getElem?_eq_getElem hj', Option.getD_some]
        have h3 : xs[j].toNat < 256 := by omega
        rw [UInt8.toNat_ofNat_of_lt' h3]
        omega
      rw [← h2]
      have e1 : (⟨b, 0, none⟩ : Addr).add j = ⟨b, j, none⟩ := by
        by_cases h : j = 0
        · subst h; simp [Addr.add]
        · simp [Addr.add_lit]
      rw [e1]
      simp [World.cell?, hh, h1])
  rw [hl] at hrun
  have hrun2 : (execOp a.eval ⟨d, .call { callee := .builtin .unsafeString, args := #[x, y], argTypes := #[pt, it] }, ty, pos, af, g⟩).run C.P w = .ok (.value (.string (strOf xs))) (w.freeze ⟨b, 0, none⟩ xs.length) := by
    simp [execOp, resolve, invoke, builtin, hf.eval hx, hf.eval hy, hrun]
    rfl
  unfold Okay
  rw [hrun2]
  have hn : xs.length ≠ 0 := by omega
  refine ⟨M, p ++ q, hs.gone hp (fun k hk => ?_) ?_ ?_ ?_ ?_, k⟩
  all_goals simp only [World.freeze, hn, if_false]
  · rw [Array.getElem?_modify, if_neg (Ne.symm hk)]
  · simp
end
end Go.Fw
