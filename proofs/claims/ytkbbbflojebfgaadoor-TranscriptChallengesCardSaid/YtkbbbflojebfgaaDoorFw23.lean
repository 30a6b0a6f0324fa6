/-
  The program logic, twenty-third part: frames that walk the round of a range over a function.
-/
import Derived.Test.YtkbbbflojebfgaaDoorFw22
import Derived.RangeFuncLeaves
import Derived.RangeFuncRecord
import Derived.TacticsIn
set_option linter.unusedSimpArgs false
set_option linter.unusedVariables false
namespace Go.Fw
open Go Go.RowKit

/-- The fence of frames that are out of a round, or in one. -/
def Fr (ro : Option Nat) : Fence := { Fence.wide with round := ro }
theorem fr_none : Fr none = Fence.wide := rfl
theorem fr_some (l : Nat) : Fr (some l) = Fence.wide.inRound l := rfl
theorem callsIn_fr {ro : Option Nat} {n : Nat} {P : Program} {f : FuncId} {args : Array Value} {w : World} {R : Ending → World → Prop} (h : Calls P f args w R) : CallsIn (Fr ro) n P f args w R :=
  (callsIn_wide (n := n)).2 h

theorem okay_semAt {P : Program} {o : Oper} {a : Act} {w : World} {K : Value → World → Prop} (ro : Option Nat) (h : Okay P o a w K) : o.semAt ro a.eval = execOp a.eval o := by
  obtain ⟨d, op, ty, pos, af, g⟩ := o
  cases op with
  | defer c =>
    exfalso
    unfold Okay at h
    simp only [execOp, Sem.run_bind, Sem.run_pure] at h
    cases e : (resolve a.eval c ty).run P w with
    | ok x w' => rw [e] at h; exact h
    | halt x w' => rw [e] at h; exact h
  | _ => cases ro <;> rfl

theorem Okay.wpIn {ro : Option Nat} {n : Nat} {P : Program} {o : Oper} {a : Act} {w : World} {K : Value → World → Prop} {K' : Act → World → Prop} {Q : Exit → Act → World → Prop} (h : Okay P o a w K) (hk : ∀ v w', K v w' → K' (a.put o.dst v) w') : o.wpIn (Fr ro) n P a w K' Q := by
  refine ⟨fun _ _ => trivial, ?_⟩
  rw [okay_semAt _ h]
  unfold Okay at h
  generalize (execOp a.eval o).run P w = r at *
  cases r with
  | ok m w' =>
    cases m <;> simp only at h <;> simp only [Oper.uponIn]
    case value v => exact hk _ _ h
    case skip => exact hk _ _ h
    case enter f args => exact ⟨(fun hd => by cases hd), callsIn_fr (h.mono fun e w'' ⟨v, he, hv⟩ => by subst he; exact hk _ _ hv)⟩
  | halt x w' => exact h.elim

theorem wpListIn_of_lst {ro : Option Nat} {n : Nat} {P : Program} {l0 : Array Oper} {K : Act → World → Prop} {Q : Exit → Act → World → Prop} {rest : List Oper} (hk : ∀ a w, K a w → wpListIn (Fr ro) n P l0 Q rest a w) :
    ∀ (l : List Oper) (a : Act) (w : World), lst P l0 K l a w → wpListIn (Fr ro) n P l0 Q (l ++ rest) a w
  | [], a, w, h => hk _ _ h
  | o :: l, a, w, h => by
    unfold lst at h
    show wpListIn (Fr ro) n P l0 Q (o :: (l ++ rest)) a w
    unfold wpListIn
    split
    · rename_i hw
      rw [if_pos hw] at h
      exact h.wpIn fun v w' hv => wpListIn_of_lst hk l _ _ hv
    · rename_i hw
      rw [if_neg hw] at h
      exact ⟨fun _ _ => trivial, wpListIn_of_lst hk l _ _ h⟩

/-! ### The code of a round -/
/-- Code that is walked in a frame of this kind, and ends. -/
def CR (ro : Option Nat) (C : Pr) (c : Code) (fm : FM) (M : View) (own : List OB) (N : SP) : Prop :=
  ∀ a w, FrOk C.n a fm → St C.wE C.mu M own w → c.wpIn (Fr ro) 0 C.P (fun e a' w' => e = .normal ∧ real C N a' w') a w

section
variable {ro : Option Nat} {C : Pr} {fm : FM} {M : View} {own : List OB} {N : SP}
theorem cr_region {id : Nat} {l : List Oper} (h : OL C l.toArray l fm M own N) : CR ro C (.region id l.toArray false) fm M own N := by
  intro a w hf hs
  refine wpIn_region_lit ?_
  have := wpListIn_of_lst (ro := ro) (n := 0) (Q := fun e a' w' => e = .normal ∧ real C N a' w') (rest := []) (fun a w hk => wpListIn_nil ⟨rfl, hk⟩) l a w (h a w hf hs)
  rwa [List.append_nil] at this
theorem cr_seq {x y : Code} (h : CR ro C x fm M own (fun fm M own => CR ro C y fm M own N)) : CR ro C (.seq x y) fm M own N := by
  intro a w hf hs
  refine wpIn_seq (wpIn_mono (h a w hf hs) ?_)
  rintro e a' w' ⟨rfl, fm', M', own', h1, h2, h3⟩
  exact h3 a' w' h1 h2
theorem cr_block {id : Nat} {c : Code} (h : CR ro C c fm M own N) : CR ro C (.block id c) fm M own N := by
  intro a w hf hs
  refine wpIn_block (wpIn_mono (h a w hf hs) ?_)
  rintro e a' w' ⟨rfl, h⟩
  exact ⟨rfl, h⟩
theorem cr_skip (h : N fm M own) : CR ro C .skip fm M own N := fun a w hf hs => wpIn_skip ⟨rfl, _, _, _, hf, hs, h⟩
end

/-! ### The record of the loop -/
theorem View.add_same {M : View} {b : Nat} {o : Obj} : (M.add b o) b = some o := by unfold View.add; rw [if_pos rfl]
theorem View.add_other {M : View} {b k : Nat} {o : Obj} (h : k ≠ b) : (M.add b o) k = M k := by unfold View.add; rw [if_neg h]
/-- A block of the view is replaced. -/
theorem St.putObj {wE : World} {mu : List Nat} {M : View} {own : List OB} {w : World} (h : St wE mu M own w) {l : Nat} {o o' : Obj} (hl : M l = some o) (hb : wE.heap.size ≤ l ∨ l ∈ mu) : St wE mu (M.add l o') own (w.putObj l o') := by
  have hlt : l < w.heap.size := lt_of_heap (h.imm l o hl)
  have hne : ∀ x ∈ own, ∀ b, x.ref = some b → b ≠ l := fun x hx b hb e => by
    have := (h.sep x hx b hb).1
    rw [e, hl] at this
    cases this
  refine ⟨h.os, h.tape, h.output, ?_, fun b hb1 hb2 => ?_, fun b o1 e => ?_, fun x hx b hb => ?_, fun x hx => ?_, h.nodup⟩
  · show _ ≤ (w.heap.setIfInBounds l o').size
    rw [Array.size_setIfInBounds]; exact h.size
  · have : b ≠ l := fun e => by
      subst e
      rcases hb with hb | hb
      · omega
      · exact hb2 hb
    rw [World.putObj_heap_other this]
    exact h.frame b hb1 hb2
  · by_cases hk : b = l
    · subst hk
      rw [View.add_same] at e
      cases e
      exact World.putObj_heap_same hlt
    · rw [View.add_other hk] at e
      rw [World.putObj_heap_other hk]
      exact h.imm b o1 e
  · rw [View.add_other (hne x hx b hb)]
    exact h.sep x hx b hb
  · exact OB.ok_mono (h.cells x hx) fun b hb => World.putObj_heap_other (hne x hx b hb)

/-- One round of a range over a function: its record lies in the view. -/
theorem round_of {C : Pr} {w : World} {M : View} {own : List OB} {l n' : Nat} {rc : Loop} {fm : FM} {tmps : Array Value} {Φ : View → List OB → Prop}
    (hs : St C.wE C.mu M own w) (hst : rc.state = .ready) (hp : rc.pending = none) (hb : C.wE.heap.size ≤ l ∨ l ∈ C.mu) (hfr : FrOk n' { tmps := tmps, defers := [] } fm)
    (h : CR (some l) ⟨C.P, n', C.wE, C.mu⟩ rc.assign fm M own (fun fm1 M1 own1 => M1 l = some (.loop rc) ∧
      CR (some l) ⟨C.P, n', C.wE, C.mu⟩ rc.body fm1 (M1.add l (.loop { rc with state := .busy })) own1 (fun _ M2 own2 => M2 l = some (.loop { rc with state := .busy }) ∧ Φ (M2.add l (.loop rc)) own2))) :
    RoundIn Fence.wide 0 C.P l rc.fn tmps rc.assign rc.body w (fun e w' => e = .returned (.bool true) ∧ ∃ M' own', St C.wE C.mu M' own' w' ∧ Φ M' own') := by
  refine roundIn_of_wpIn trivial (wpIn_mono (h _ _ hfr hs) ?_)
  rintro e a1 w1 ⟨rfl, fm1, M1, own1, h1, h2, h3, h4⟩
  refine ⟨_, run_beginRound (h2.imm _ _ h3) hst, wpIn_mono (h4 _ _ h1 (h2.putObj h3 hb)) ?_⟩
  rintro e a2 w2 ⟨rfl, fm2, M2, own2, g1, g2, g3, g4⟩
  refine ⟨_, _, run_endRound none (g2.imm _ _ g3), rfl, _, own2, g2.putObj g3 hb, ?_⟩
  have e : ({ { rc with state := .busy } with state := if (none : Option Code).isNone then .ready else .done, pending := none } : Loop) = rc := by
    cases rc
    simp only at hst hp
    subst hst hp
    rfl
  rw [e]
  exact g4

/-! ### The call of yield -/
theorem run_yieldCall {P : Program} {n : Nat} {a : Act} {fm : FM} {w : World} {l : Nat} {rc : Loop} {c : Operand} {xs : List Operand} {vs : List Value} {ts : Array TypeId} {d : Option Nat} {ty : TypeId} {pos : String} {af : Array Edge} {g : Option (Nat × Bool)}
    (hf : FrOk n a fm) (hc : ev fm c = some (.func (.yield l) #[] #[])) (hx : evs fm xs = some vs) (hl : w.heap[l]? = some (.loop rc)) (hs : vs.length = rc.params.size) :
    (execOp a.eval ⟨d, .call { callee := .value c, args := xs.toArray, argTypes := ts }, ty, pos, af, g⟩).run P w =
      .ok (.round l rc.fn ((rc.params.zip vs.toArray).foldl (fun tmps (t, a) => tmps.setIfInBounds t a) rc.tmps) rc.assign rc.body) w := by
  have e1 := evs_eq hf hx
  have e2 := hf.eval hc
  have e3 := run_yield (P := P) (args := vs.toArray) hl (by simpa using hs)
  simp only [execOp, resolve, e2, Deferred.ofValue, Sem.run_bind, Sem.run_pure, Result.andThen_ok, invoke, List.map_toArray, e1]
  simpa using e3

theorem cw_region_yield {C : Pr} {fm : FM} {M : View} {own : List OB} {N : SP} {X : Nat → SP} {R : SP} {id d : Nat} {pre post : List Oper} {c : Operand} {xs : List Operand} {ts : Array TypeId} {ty : TypeId} {pos : String} {af : Array Edge} (hd : Nat.blt d C.n = true)
    (h : OL C (pre ++ ⟨some d, .call { callee := .value c, args := xs.toArray, argTypes := ts }, ty, pos, af, none⟩ :: post).toArray pre fm M own (fun fm1 M1 own1 =>
      ∃ l rc vs n' fm', ev fm1 c = some (.func (.yield l) #[] #[]) ∧ evs fm1 xs = some vs ∧ M1 l = some (.loop rc) ∧ vs.length = rc.params.size ∧ rc.state = .ready ∧ rc.pending = none ∧ (C.wE.heap.size ≤ l ∨ l ∈ C.mu) ∧
        FrOk n' { tmps := (rc.params.zip vs.toArray).foldl (fun tmps (t, a) => tmps.setIfInBounds t a) rc.tmps, defers := [] } fm' ∧
        CR (some l) ⟨C.P, n', C.wE, C.mu⟩ rc.assign fm' M1 own1 (fun fm2 M2 own2 => M2 l = some (.loop rc) ∧
          CR (some l) ⟨C.P, n', C.wE, C.mu⟩ rc.body fm2 (M2.add l (.loop { rc with state := .busy })) own2 (fun _ M3 own3 => M3 l = some (.loop { rc with state := .busy }) ∧
            OL C (pre ++ ⟨some d, .call { callee := .value c, args := xs.toArray, argTypes := ts }, ty, pos, af, none⟩ :: post).toArray post ((d, .bool true) :: fm1) (M3.add l (.loop rc)) own3 N)))) :
    CW C (.region id (pre ++ ⟨some d, .call { callee := .value c, args := xs.toArray, argTypes := ts }, ty, pos, af, none⟩ :: post).toArray false) fm M own N X R := by
  intro a w hf hs
  refine (wpIn_wide (n := 0)).1 (wpIn_region_lit ?_)
  refine wpListIn_of_lst (ro := none) ?_ pre a w (h a w hf hs)
  rintro a1 w1 ⟨fm1, M1, own1, f1, s1, l, rc, vs, n', fm', h1, h2, h3, h4, h5, h6, h7, h8, h9⟩
  unfold wpListIn
  rw [if_pos (by simp [Region.wanted])]
  refine ⟨fun _ _ => trivial, ?_⟩
  have hr := run_yieldCall (P := C.P) (ts := ts) (d := some d) (ty := ty) (pos := pos) (af := af) (g := none) f1 h1 h2 (s1.imm _ _ h3) h4
  have hsem : (⟨some d, .call { callee := .value c, args := xs.toArray, argTypes := ts }, ty, pos, af, none⟩ : Oper).semAt (Fr none).round a1.eval = execOp a1.eval ⟨some d, .call { callee := .value c, args := xs.toArray, argTypes := ts }, ty, pos, af, none⟩ := rfl
  rw [hsem, hr]
  simp only [Oper.uponIn]
  refine ⟨(fun hd => by cases hd), ?_⟩
  refine (round_of (Φ := fun M2 own2 => OL C (pre ++ ⟨some d, .call { callee := .value c, args := xs.toArray, argTypes := ts }, ty, pos, af, none⟩ :: post).toArray post ((d, .bool true) :: fm1) M2 own2 N) s1 h5 h6 h7 h8 h9).mono ?_
  rintro e w2 ⟨rfl, M2, own2, s2, h10⟩
  have := wpListIn_of_lst (ro := none) (n := 0) (rest := []) (Q := Go.Fw.post C N X R) (fun a w hk => wpListIn_nil hk) post _ _ (h10 _ w2 (f1.put hd (.bool true)) s2)
  rw [List.append_nil] at this
  exact this
end Go.Fw
