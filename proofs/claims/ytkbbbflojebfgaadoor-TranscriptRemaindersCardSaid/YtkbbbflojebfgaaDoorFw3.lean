/-
  The program logic, third part: calls, entry and exit of functions, append.
-/
import Derived.Test.YtkbbbflojebfgaaDoorFw2
set_option linter.unusedSimpArgs false
set_option linter.unusedVariables false
namespace Go.Fw
open Go Go.RowKit

/-! ### Contracts -/

/-- The call returns v, the blocks 'mutd' hold something new, the blocks 'new' are new, and Ψ holds of them. -/
def Ret (P : Program) (f : FuncId) (args : List Value) (w : World) (Ψ : Value → List OB → List OB → Prop) : Prop :=
  Calls P f args.toArray w (fun e w' => ∃ v mutd new, e = .returned v ∧ Tr w w' mutd new ∧ Ψ v mutd new)

/-- Nothing that was there is written. -/
def FnC (P : Program) (f : FuncId) (args : List Value) (w : World) (Ψ : Value → List OB → Prop) : Prop :=
  Ret P f args w (fun v m new => m = [] ∧ Ψ v new)

theorem Ret.mono {P : Program} {f : FuncId} {args : List Value} {w : World} {Ψ Ψ' : Value → List OB → List OB → Prop} (h : Ret P f args w Ψ) (hk : ∀ v m n, Ψ v m n → Ψ' v m n) : Ret P f args w Ψ' :=
  Calls.mono h fun _ _ ⟨v, m, n, h1, h2, h3⟩ => ⟨v, m, n, h1, h2, hk _ _ _ h3⟩
theorem FnC.mono {P : Program} {f : FuncId} {args : List Value} {w : World} {Ψ Ψ' : Value → List OB → Prop} (h : FnC P f args w Ψ) (hk : ∀ v n, Ψ v n → Ψ' v n) : FnC P f args w Ψ' :=
  Ret.mono h fun _ _ _ ⟨h1, h2⟩ => ⟨h1, hk _ _ h2⟩

def evs (fm : FM) : List Operand → Option (List Value)
  | [] => some []
  | x :: r => match ev fm x, evs fm r with
    | some v, some vs => some (v :: vs)
    | _, _ => none
theorem evs_eq {fm : FM} {n : Nat} {a : Act} (hf : FrOk n a fm) : ∀ {l : List Operand} {vs : List Value}, evs fm l = some vs → l.map a.eval = vs
  | [], vs, h => by simp [evs] at h; exact h.symm
  | x :: r, vs, h => by
    unfold evs at h
    split at h
    · rename_i v vs' h1 h2
      injection h with h
      subst h
      simp [hf.eval h1, evs_eq hf h2]
    · cases h

/-- A function that has a body, and is none of the model's own names. -/
def goFunc (P : Program) (f : FuncId) : Bool :=
  match P.funcs[f]? with
  | some fn => match fn.body with
    | some _ => match fn.name == "runtime.NumGoroutine" with
      | true => false
      | false => true
    | none => false
  | none => false
theorem run_callFunc {P : Program} {f : FuncId} (h : goFunc P f = true) (args : Array Value) (w : World) : (callFunc f args).run P w = .ok (.enter f args) w := by
  unfold goFunc at h
  split at h
  · rename_i fn e1
    split at h
    · rename_i c e2
      split at h
      · cases h
      · rename_i e3
        have e4 : ¬ (fn.name = "runtime.NumGoroutine") := by simpa using e3
        simp [callFunc, e1, e2, e4]
    · cases h
  · cases h

section
variable {C : Pr} {fm : FM} {M : View} {own : List OB} {K : Value → View → List OB → Prop} {d : Option Nat} {ty : TypeId} {pos : String} {af : Array Edge} {g : Option (Nat × Bool)}

theorem run_call {n : Nat} {a : Act} {f : FuncId} {xs : List Operand} {vs : List Value} {ts : Array TypeId} (hf : FrOk n a fm) (hx : evs fm xs = some vs) (hg : goFunc C.P f = true) (w : World) :
    (execOp a.eval ⟨d, .call { callee := .value (.func f), args := xs.toArray, argTypes := ts }, ty, pos, af, g⟩).run C.P w = .ok (.enter f vs.toArray) w := by
  have e : xs.toArray.map a.eval = vs.toArray := by rw [List.map_toArray, evs_eq hf hx]
  simp [execOp, resolve, Act.eval, Deferred.ofValue, invoke, evs_eq hf hx, run_callFunc hg]

theorem s_call {f : FuncId} {xs : List Operand} {vs : List Value} {ts : Array TypeId} {Ψ : Value → List OB → Prop} (hx : evs fm xs = some vs) (hg : goFunc C.P f = true)
    (hc : ∀ w, St C.wE C.mu M own w → FnC C.P f vs w Ψ) (k : ∀ v new, Ψ v new → K v M (new ++ own)) :
    Stp C ⟨d, .call { callee := .value (.func f), args := xs.toArray, argTypes := ts }, ty, pos, af, g⟩ fm M own K := by
  intro a w hf hs
  unfold Okay
  rw [run_call hf hx hg w]
  refine Calls.mono (hc w hs) fun e w' ⟨v, m, new, h1, h2, h3, h4⟩ => ⟨v, h1, M, new ++ own, ?_, k v new h4⟩
  subst h3
  exact hs.call h2

/-- A call that gives a plain value alone. -/
theorem s_callv {f : FuncId} {xs : List Operand} {vs : List Value} {ts : Array TypeId} {v : Value} (hx : evs fm xs = some vs) (hg : goFunc C.P f = true)
    (hc : ∀ w, St C.wE C.mu M own w → FnC C.P f vs w (fun u _ => u = v)) (k : K v M own) :
    Stp C ⟨d, .call { callee := .value (.func f), args := xs.toArray, argTypes := ts }, ty, pos, af, g⟩ fm M own K := by
  intro a w hf hs
  unfold Okay
  rw [run_call hf hx hg w]
  refine Calls.mono (hc w hs) fun e w' ⟨u, m, new, h1, h2, h3, h4⟩ => ⟨u, h1, M, own, ?_, ?_⟩
  · subst h3
    exact (hs.call h2).weaken (View.le.refl M) (List.sublist_append_right new own)
  · subst h4; exact k

/-- A call that writes one block of ours (and keeps to itself what it makes). -/
theorem s_callm {f : FuncId} {xs : List Operand} {vs : List Value} {ts : Array TypeId} {Ψ : Value → List Value → List OB → Prop} {b : Nat} {cs : List Value} {T : TypeId} {p q : List OB} (hx : evs fm xs = some vs) (hg : goFunc C.P f = true)
    (hc : ∀ w, St C.wE C.mu M own w → Ret C.P f vs w (fun v m new => ∃ cs', m = [⟨some b, cs', T⟩] ∧ Ψ v cs' new)) (hp : Spl own ⟨some b, cs, T⟩ p q)
    (k : ∀ v cs' new, Ψ v cs' new → K v M (p ++ ⟨some b, cs', T⟩ :: q)) :
    Stp C ⟨d, .call { callee := .value (.func f), args := xs.toArray, argTypes := ts }, ty, pos, af, g⟩ fm M own K := by
  intro a w hf hs
  unfold Okay
  rw [run_call hf hx hg w]
  refine Calls.mono (hc w hs) fun e w' ⟨v, m, new, h1, h2, cs', h3, h4⟩ => ?_
  subst h3
  rw [hp.eq] at hs
  exact ⟨v, h1, M, p ++ ⟨some b, cs', T⟩ :: q, (hs.callMut (Repl.mk p) h2).weaken (View.le.refl M) (List.sublist_append_right new _), k v cs' new h4⟩

/-- The same, what it makes is kept. -/
theorem s_callmn {f : FuncId} {xs : List Operand} {vs : List Value} {ts : Array TypeId} {Ψ : Value → List Value → List OB → Prop} {b : Nat} {cs : List Value} {T : TypeId} {p q : List OB} (hx : evs fm xs = some vs) (hg : goFunc C.P f = true)
    (hc : ∀ w, St C.wE C.mu M own w → Ret C.P f vs w (fun v m new => ∃ cs', m = [⟨some b, cs', T⟩] ∧ Ψ v cs' new)) (hp : Spl own ⟨some b, cs, T⟩ p q)
    (k : ∀ v cs' new, Ψ v cs' new → K v M (new ++ (p ++ ⟨some b, cs', T⟩ :: q))) :
    Stp C ⟨d, .call { callee := .value (.func f), args := xs.toArray, argTypes := ts }, ty, pos, af, g⟩ fm M own K := by
  intro a w hf hs
  unfold Okay
  rw [run_call hf hx hg w]
  refine Calls.mono (hc w hs) fun e w' ⟨v, m, new, h1, h2, cs', h3, h4⟩ => ?_
  subst h3
  rw [hp.eq] at hs
  exact ⟨v, h1, M, _, hs.callMut (Repl.mk p) h2, k v cs' new h4⟩

theorem St.ok_ {wE : World} {mu : List Nat} {w : World} (hs : St wE mu M own w) {x : OB} (h : Has own x) : x.ok w := hs.cells _ h.mem
end

/-! ### Entry and exit -/

/-- The slots at the entry. -/
def params : Nat → List Value → FM
  | _, [] => []
  | i, v :: r => (i, v) :: params (i + 1) r

theorem params_get : ∀ (vs : List Value) (i j : Nat) (v : Value), (params i vs).get j = some v → i ≤ j ∧ vs[j - i]? = some v
  | [], _, _, _, h => by cases h
  | u :: r, i, j, v, h => by
    simp only [params, FM.get] at h
    by_cases e : i = j
    · subst e
      simp at h
      subst h
      simp
    · rw [beq_ne e] at h
      obtain ⟨h1, h2⟩ := params_get r (i + 1) j v h
      refine ⟨by omega, ?_⟩
      rw [show j - i = (j - (i + 1)) + 1 by omega]
      simpa using h2

/-- The results are read off: slots, or variables in memory. -/
inductive RVal (P : Program) (fm : FM) (M : View) (own : List OB) : List ResultVar → List Value → Prop
  | nil : RVal P fm M own [] []
  | tmp {t : Nat} {v : Value} {rs : List ResultVar} {vs : List Value} : fm.get t = some v → RVal P fm M own rs vs → RVal P fm M own (.tmp t :: rs) (v :: vs)
  | cell1 {s t b off : Nat} {v : Value} {rs : List ResultVar} {vs : List Value} : fm.get s = some (.pointer (some ⟨b, off, none⟩)) → aggB P t = some false → RdN M own b off 1 [v] → RVal P fm M own rs vs → RVal P fm M own (.cell s t :: rs) (v :: vs)
  | cellN {s t b off n : Nat} {us : List Value} {rs : List ResultVar} {vs : List Value} : fm.get s = some (.pointer (some ⟨b, off, none⟩)) → aggB P t = some true → sizeB P t = some n → RdN M own b off n us → RVal P fm M own rs vs → RVal P fm M own (.cell s t :: rs) (.agg us.toArray :: vs)

def tup : List Value → Value
  | [v] => v
  | vs => .tuple vs.toArray

def readRes (tmps : Array Value) : ResultVar → Sem Value
  | .tmp t => pure (tmps.getD t undef)
  | .cell s t => do loadVar t (← asAddr (tmps.getD s undef))

theorem results_eq (fn : Func) (tmps : Array Value) : results fn tmps = (do
    let vs ← fn.results.mapM (readRes tmps)
    pure (if h : vs.size = 1 then vs[0] else .tuple vs)) := by
  unfold results
  rfl

theorem RVal.run {P : Program} {fm : FM} {M : View} {own : List OB} {rs : List ResultVar} {vs : List Value} (h : RVal P fm M own rs vs) {n : Nat} {a : Act} {wE : World} {mu : List Nat} {w : World} (hf : FrOk n a fm) (hs : St wE mu M own w) :
    (rs.mapM (m := Sem) (readRes a.tmps)).run P w = .ok vs w := by
  induction h with
  | nil => simp
  | tmp h1 _ ih =>
    have h2 := hf.get _ _ h1
    simp only [List.mapM_cons, Sem.run_bind, readRes, Sem.run_pure, Result.andThen_ok, ih]
    simp [h2]
  | cell1 h1 h2 h3 _ ih =>
    have hl := run_load1 (C := ⟨P, n, wE, mu⟩) hs h2 h3
    simp only [Instr.loadAt, Instr.sureAddr, Sem.run_bind, Sem.run_pure, Result.andThen_ok] at hl
    have h4 := hf.get _ _ h1
    simp only [List.mapM_cons, Sem.run_bind, readRes]
    rw [Array.getD_eq_getD_getElem?, h4]
    simp only [Option.getD_some, asAddr, Sem.run_pure, Result.andThen_ok, hl, ih]
  | cellN h1 h2 h2' h3 _ ih =>
    have hl := run_loadN (C := ⟨P, n, wE, mu⟩) hs h2 h2' h3
    simp only [Instr.loadAt, Instr.sureAddr, Sem.run_bind, Sem.run_pure, Result.andThen_ok] at hl
    have h4 := hf.get _ _ h1
    simp only [List.mapM_cons, Sem.run_bind, readRes]
    rw [Array.getD_eq_getD_getElem?, h4]
    simp only [Option.getD_some, asAddr, Sem.run_pure, Result.andThen_ok, hl, ih]

theorem results_of {P : Program} {fn : Func} {fm : FM} {M : View} {own : List OB} {rs : List ResultVar} {vs : List Value} (hr : fn.results = rs.toArray) (h : RVal P fm M own rs vs) {n : Nat} {a : Act} {wE : World} {mu : List Nat} {w : World} (hf : FrOk n a fm) (hs : St wE mu M own w) :
    (results fn a.tmps).run P w = .ok (tup vs) w := by
  have := h.run hf hs
  rw [results_eq, hr]
  simp only [Sem.run_bind, List.mapM_toArray, Sem.run_map, this, Result.andThen_ok, Sem.run_pure]
  congr 1
  match vs with
  | [] => rfl
  | [v] => rfl
  | _ :: _ :: _ => rfl

/-- What a function's end must show. -/
def Ends (P : Program) (rs : List ResultVar) (Ψ : Value → List OB → List OB → Prop) (mrefs : List Nat) : SP := fun fm M own =>
  ∃ vs mutd new, RVal P fm M own rs vs ∧ Pick own (mutd ++ new) ∧ mutd.map OB.ref = mrefs.map some ∧ Ψ (tup vs) mutd new

theorem enter {P : Program} {f : FuncId} {fn : Func} {c : Code} {n : Nat} {rs : List ResultVar} {args : List Value} {w : World} {Ψ : Value → List OB → List OB → Prop} {M : View} {mutd : List OB}
    (hf : P.funcs[f]? = some fn) (hb : fn.body = some c) (hn : fn.ntmps = n) (hr : fn.results = rs.toArray) (ha : Nat.ble args.length n = true)
    (hM : View.le M (View.of w)) (hm : ∀ x ∈ mutd, x.ok w) (hsep : ∀ x ∈ mutd, ∀ b, x.ref = some b → M b = none) (hnd : (mutd.filterMap OB.ref).Nodup)
    (h : CW ⟨P, n, w, mutd.filterMap OB.ref⟩ c (params 0 args) M mutd (Ends P rs Ψ (mutd.filterMap OB.ref)) (fun _ _ _ _ => False) (Ends P rs Ψ (mutd.filterMap OB.ref))) :
    Ret P f args w Ψ := by
  refine calls_of_wp hf hb (Code.wp_mono (fun e a w' q => ?_) (h _ _ ⟨?_, rfl, ?_⟩ ⟨rfl, rfl, rfl, Nat.le_refl _, fun _ _ _ => rfl, hM, fun x hx b hb => ⟨hsep x hx b hb, .inr (List.mem_filterMap.2 ⟨x, hx, hb⟩)⟩, hm, hnd⟩))
  · have fin : ∀ (a : Act) (w' : World), real ⟨P, n, w, mutd.filterMap OB.ref⟩ (Ends P rs Ψ (mutd.filterMap OB.ref)) a w' →
        a.defers = [] ∧ ∃ v, (results fn a.tmps).run P w' = .ok v w' ∧ ∃ u m new, Ending.returned v = .returned u ∧ Tr w w' m new ∧ Ψ u m new := by
      rintro a w' ⟨fm, M', own', h1, h2, vs, m, new, h3, h4, h5, h6⟩
      refine ⟨h1.defers, tup vs, results_of hr h3 h1 h2, tup vs, m, new, rfl, ⟨h2.os, h2.tape, h2.output, h2.size, fun b hb hx => ?_, fun x hx => (h2.pick h4).cells x hx, fun x hx b hb => ?_, ?_⟩, h6⟩
      · refine h2.frame b hb fun hm' => ?_
        have : some b ∈ m.map OB.ref := by rw [h5]; exact List.mem_map.2 ⟨b, hm', rfl⟩
        obtain ⟨x, hx1, hx2⟩ := List.mem_map.1 this
        exact hx x hx1 hx2
      · have hx' : x ∈ m ++ new := List.mem_append_right _ hx
        rcases ((h2.pick h4).sep x hx' b hb).2 with h7 | h7
        · exact h7
        · exfalso
          have hnd' := (h2.pick h4).nodup
          rw [List.filterMap_append] at hnd'
          have : some b ∈ m.map OB.ref := by rw [h5]; exact List.mem_map.2 ⟨b, h7, rfl⟩
          obtain ⟨y, hy1, hy2⟩ := List.mem_map.1 this
          exact (List.nodup_append.1 hnd').2.2 b (List.mem_filterMap.2 ⟨y, hy1, hy2⟩) b (List.mem_filterMap.2 ⟨x, hx, hb⟩) rfl
      · have hnd' := (h2.pick h4).nodup
        rw [List.filterMap_append] at hnd'
        exact (List.nodup_append.1 hnd').2.1
    cases e with
    | normal => exact fin a w' q
    | ret => exact fin a w' q
    | exit i => obtain ⟨_, _, _, _, _, h⟩ := q; exact h.elim
    | goto l => exact q.elim
    | panic c => exact q.elim
    | outgrown => exact q.elim
  · have : args.length ≤ n := by simpa [Nat.ble_eq] using ha
    simp [hn]; omega
  · intro i v hv
    obtain ⟨_, h2⟩ := params_get args 0 i v hv
    simp only [Nat.sub_zero] at h2
    have hl : i < args.length := (List.getElem?_eq_some_iff.1 h2).1
    simp [Array.getElem?_append, hl]
    simpa [List.getElem?_eq_getElem hl] using h2

/-- Entry of a function that writes nothing that was there. -/
theorem enterF {P : Program} {f : FuncId} {fn : Func} {c : Code} {n : Nat} {rs : List ResultVar} {args : List Value} {w : World} {Ψ : Value → List OB → Prop} {M : View}
    (hf : P.funcs[f]? = some fn) (hb : fn.body = some c) (hn : fn.ntmps = n) (hr : fn.results = rs.toArray) (ha : Nat.ble args.length n = true)
    (hM : View.le M (View.of w))
    (h : CW ⟨P, n, w, []⟩ c (params 0 args) M [] (Ends P rs (fun v m new => m = [] ∧ Ψ v new) []) (fun _ _ _ _ => False) (Ends P rs (fun v m new => m = [] ∧ Ψ v new) [])) :
    FnC P f args w Ψ :=
  enter (mutd := []) hf hb hn hr ha hM (fun _ h => by cases h) (fun _ h => by cases h) List.nodup_nil h

/-- The end, in words: the values, the new blocks that are handed on. -/
theorem ends {P : Program} {fm : FM} {M : View} {own : List OB} {rs : List ResultVar} {Ψ : Value → List OB → Prop} {vs : List Value} (new : List OB) (h : RVal P fm M own rs vs) (hn : Pick own new) (hk : Ψ (tup vs) new) :
    Ends P rs (fun v m new => m = [] ∧ Ψ v new) [] fm M own := ⟨vs, [], new, h, by simpa using hn, rfl, rfl, hk⟩
theorem endsM {P : Program} {fm : FM} {M : View} {own : List OB} {rs : List ResultVar} {Ψ : Value → List OB → List OB → Prop} {vs : List Value} {mrefs : List Nat} (mutd new : List OB) (h : RVal P fm M own rs vs) (hn : Pick own (mutd ++ new)) (hm : mutd.map OB.ref = mrefs.map some) (hk : Ψ (tup vs) mutd new) :
    Ends P rs Ψ mrefs fm M own := ⟨vs, mutd, new, h, hn, hm, hk⟩


end Go.Fw
