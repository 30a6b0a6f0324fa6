/-
  Texts joined: Fw1.
-/
import Derived.StillTail
import Derived.Below
import Derived.Laws.AppendOwn
import Derived.Laws.Cells
set_option linter.unusedSimpArgs false
set_option linter.unusedVariables false
namespace Go.Fw
open Go Go.RowKit
theorem beq_ne {a b : Nat} (e : a ≠ b) : Nat.beq a b = false := by
  cases h : Nat.beq a b
  · rfl
  · exact absurd (Nat.eq_of_beq_eq_true h) e
abbrev FM := List (Nat × Value)
def FM.get : FM → Nat → Option Value
  | [], _ => none
  | (k, v) :: r, i => match Nat.beq k i with
    | true => some v
    | false => FM.get r i
structure FrOk (n : Nat) (a : Act) (fm : FM) : Prop where
  size : a.tmps.size = n
  defers : a.defers = []
  get : ∀ i v, fm.get i = some v → a.tmps[i]? = some v
theorem FrOk.put {n : Nat} {a : Act} {fm : FM} (h : FrOk n a fm) {d : Nat} (hd : Nat.blt d n = true) (v : Value) : FrOk n (a.put (some d) v) ((d, v) :: fm) := by
  have hd' : d < n := by simp [Nat.blt] at hd; omega
  refine ⟨by simp [Act.put, h.size], by simp [Act.put, h.defers], fun i u hu => ?_⟩
  simp only [FM.get] at hu
  by_cases e : d = i
  · subst e
    simp at hu
    subst hu
    simp [Act.put, h.size, hd']
  · have : Nat.beq d i = false := beq_ne e
    rw [this] at hu
    have := h.get i u hu
    simp [Act.put, Array.getElem?_setIfInBounds_ne e, this]
/-- All that is listed in 'fm'' is known by 'fm'. -/
def FM.sub : FM → FM → Prop
  | [], _ => True
  | (k, v) :: r, fm => fm.get k = some v ∧ FM.sub r fm
theorem FM.sub_get {fm' fm : FM} (h : FM.sub fm' fm) : ∀ i v, fm'.get i = some v → fm.get i = some v := by
  induction fm' with
  | nil => intro i v h'; cases h'
  | cons p r ih =>
    obtain ⟨k, u⟩ := p
    intro i v hv
    simp only [FM.get] at hv
    by_cases e : k = i
    · subst e
      simp at hv
      subst hv
      exact h.1
    · have : Nat.beq k i = false := beq_ne e
      rw [this] at hv
      exact ih h.2 i v hv
theorem FrOk.sub {n : Nat} {a : Act} {fm fm' : FM} (h : FrOk n a fm) (hs : FM.sub fm' fm) : FrOk n a fm' :=
  ⟨h.size, h.defers, fun i v hv => h.get i v (FM.sub_get hs i v hv)⟩
def ev (fm : FM) : Operand → Option Value
  | .tmp t => fm.get t
  | .const v => some v
  | .global g => some (.pointer (some ⟨g, 0, none⟩))
  | .func f => some (.func (.func f) #[] #[])
theorem FrOk.eval {n : Nat} {a : Act} {fm : FM} (h : FrOk n a fm) {x : Operand} {v : Value} (hx : ev fm x = some v) : a.eval x = v := by
  cases x <;> simp only [ev] at hx
  case tmp t => simp [Act.eval, h.get _ _ hx]
  all_goals (injection hx)
abbrev View := Nat → Option Obj
def View.le (M N : View) : Prop := ∀ b o, M b = some o → N b = some o
theorem View.le.refl (M : View) : View.le M M := fun _ _ h => h
theorem View.le.trans {A B C : View} (h : View.le A B) (k : View.le B C) : View.le A C := fun b o e => k b o (h b o e)
def View.of (w : World) : View := fun b => w.heap[b]?
/-- The cell at an address, as the view has it. -/
def View.cell (M : View) (b off : Nat) : Option Value :=
  match M b with
  | some (.cells c _ _) => c[off]?
  | _ => none
theorem View.le.cell {M N : View} (h : View.le M N) {b off : Nat} {v : Value} (hc : M.cell b off = some v) : N.cell b off = some v := by
  unfold View.cell at *
  cases hb : M b with
  | none => rw [hb] at hc; cases hc
  | some o => rw [hb] at hc; rw [h b o hb]; exact hc
/-- The view without the blocks listed. -/
def View.but (M : View) (bs : List Nat) : View := fun b => if b ∈ bs then none else M b
/-- A block that the call owns, written out: its cells and its elements' type. 'ref = none': a nil slice, no block at all. -/
structure OB where
  ref : Option Nat
  cs : List Value
  ty : TypeId
/-- What of a block may not be written lies behind its n cells. -/
def fzOk (n : Nat) (fz : Nat × Nat) : Prop := n ≤ fz.1 ∨ fz = (0, 0)
def OB.ok (x : OB) (w : World) : Prop :=
  match x.ref with
  | none => x.cs = []
  | some b => ∃ fz, fzOk x.cs.length fz ∧ w.heap[b]? = some (.cells x.cs.toArray x.ty fz)
theorem OB.ok_some {b : Nat} {cs : List Value} {T : TypeId} {w : World} (h : OB.ok ⟨some b, cs, T⟩ w) : ∃ fz, fzOk cs.length fz ∧ w.heap[b]? = some (.cells cs.toArray T fz) := h
theorem OB.ok_mk {b : Nat} {cs : List Value} {T : TypeId} {w : World} {fz : Nat × Nat} (h : w.heap[b]? = some (.cells cs.toArray T fz)) (hf : fzOk cs.length fz) : OB.ok ⟨some b, cs, T⟩ w := ⟨fz, hf, h⟩
structure St (wE : World) (mu : List Nat) (M : View) (own : List OB) (w : World) : Prop where
  os : w.os = wE.os
  tape : w.tape = wE.tape
  output : w.output = wE.output
  size : wE.heap.size ≤ w.heap.size
  frame : ∀ b, b < wE.heap.size → b ∉ mu → w.heap[b]? = wE.heap[b]?
  imm : ∀ b o, M b = some o → w.heap[b]? = some o
  sep : ∀ x ∈ own, ∀ b, x.ref = some b → M b = none ∧ (wE.heap.size ≤ b ∨ b ∈ mu)
  cells : ∀ x ∈ own, x.ok w
  nodup : (own.filterMap OB.ref).Nodup
theorem lt_of_heap {w : World} {b : Nat} {o : Obj} (h : w.heap[b]? = some o) : b < w.heap.size := (Array.getElem?_eq_some_iff.1 h).1
theorem OB.ok_mono {x : OB} {w w' : World} (h : x.ok w) (hw : ∀ b, x.ref = some b → w'.heap[b]? = w.heap[b]?) : x.ok w' := by
  unfold OB.ok at *
  cases hr : x.ref with
  | none => rw [hr] at h; exact h
  | some b => rw [hr] at h; simp only at h ⊢; obtain ⟨fz, h1, h2⟩ := h; exact ⟨fz, h1, by rw [hw b hr]; exact h2⟩
theorem St.drew {wE : World} {mu : List Nat} {M : View} {own : List OB} {w : World} (h : St wE mu M own w) : St wE mu M own { w with drawn := w.drawn + 1 } :=
  ⟨h.os, h.tape, h.output, h.size, h.frame, h.imm, h.sep, h.cells, h.nodup⟩
theorem St.le {wE : World} {mu : List Nat} {M : View} {own : List OB} {w : World} (h : St wE mu M own w) : View.le M (View.of w) := h.imm
theorem St.ref_lt {wE : World} {mu : List Nat} {M : View} {own : List OB} {w : World} (h : St wE mu M own w) {x : OB} (hx : x ∈ own) {b : Nat} (hb : x.ref = some b) : b < w.heap.size := by
  have := h.cells x hx
  unfold OB.ok at this
  rw [hb] at this
  obtain ⟨fz, _, this⟩ := this
  exact lt_of_heap this
/-- Weaken: forget owned blocks, and parts of the view. -/
theorem St.weaken {wE : World} {mu : List Nat} {M M' : View} {own own' : List OB} {w : World} (h : St wE mu M own w) (hM : View.le M' M) (ho : own'.Sublist own) : St wE mu M' own' w :=
  ⟨h.os, h.tape, h.output, h.size, h.frame, fun b o e => h.imm b o (hM b o e), fun x hx b hb => by
    obtain ⟨h1, h2⟩ := h.sep x (ho.subset hx) b hb
    refine ⟨?_, h2⟩
    cases e : M' b with
    | none => rfl
    | some o => (rw [hM b o e] at h1; cases h1), fun x hx => h.cells x (ho.subset hx), (ho.filterMap _).nodup h.nodup⟩
theorem St.perm {wE : World} {mu : List Nat} {M : View} {own own' : List OB} {w : World} (h : St wE mu M own w) (ho : own.Perm own') : St wE mu M own' w :=
  ⟨h.os, h.tape, h.output, h.size, h.frame, h.imm, fun x hx => h.sep x (ho.mem_iff.2 hx), fun x hx => h.cells x (ho.mem_iff.2 hx), (ho.filterMap _).nodup_iff.1 h.nodup⟩
/-- Blocks may be added, nothing that was there has turned. -/
structure Grow (w w' : World) : Prop where
  os : w'.os = w.os
  tape : w'.tape = w.tape
  output : w'.output = w.output
  size : w.heap.size ≤ w'.heap.size
  keep : ∀ b, b < w.heap.size → w'.heap[b]? = w.heap[b]?
/-- From w to w': the blocks 'mutd' (there before) hold something new, the blocks 'new' are new, all else is as it was. -/
structure Tr (w w' : World) (mutd new : List OB) : Prop where
  os : w'.os = w.os
  tape : w'.tape = w.tape
  output : w'.output = w.output
  size : w.heap.size ≤ w'.heap.size
  keep : ∀ b, b < w.heap.size → (∀ x ∈ mutd, x.ref ≠ some b) → w'.heap[b]? = w.heap[b]?
  cells : ∀ x ∈ mutd ++ new, x.ok w'
  fresh : ∀ x ∈ new, ∀ b, x.ref = some b → w.heap.size ≤ b
  nodup : (new.filterMap OB.ref).Nodup
theorem St.newBlock {wE : World} {mu : List Nat} {M : View} {own : List OB} {w w' : World} (h : St wE mu M own w) (cs : List Value) (T : TypeId)
    (hh : w'.heap = w.heap.push (.cells cs.toArray T)) (h1 : w'.os = w.os) (h2 : w'.tape = w.tape) (h3 : w'.output = w.output) : St wE mu M (⟨some w.heap.size, cs, T⟩ :: own) w' := by
  have hlt : ∀ b, b < w.heap.size → w'.heap[b]? = w.heap[b]? := fun b hb => by rw [hh, Array.getElem?_push, if_neg (by omega)]
  have hnew : w'.heap[w.heap.size]? = some (.cells cs.toArray T) := by rw [hh]; simp
  refine ⟨h1.trans h.os, h2.trans h.tape, h3.trans h.output, by rw [hh]; simp; exact Nat.le_succ_of_le h.size, fun b hb hm => by rw [hlt b (Nat.lt_of_lt_of_le hb h.size)]; exact h.frame b hb hm, fun b o e => by rw [hlt b (lt_of_heap (h.imm b o e))]; exact h.imm b o e, fun x hx b hb => ?_, fun x hx => ?_, ?_⟩
  · rcases List.mem_cons.1 hx with rfl | hx
    · simp only [Option.some.injEq] at hb
      subst hb
      refine ⟨?_, .inl h.size⟩
      cases e : M w.heap.size with
      | none => rfl
      | some o => exact absurd (lt_of_heap (h.imm _ o e)) (by omega)
    · exact h.sep x hx b hb
  · rcases List.mem_cons.1 hx with rfl | hx
    · exact OB.ok_mk hnew (.inr rfl)
    · exact OB.ok_mono (h.cells x hx) fun b hb => hlt b (h.ref_lt hx hb)
  · simp only [List.filterMap_cons]
    refine List.nodup_cons.2 ⟨fun hm => ?_, h.nodup⟩
    obtain ⟨x, hx, hb⟩ := List.mem_filterMap.1 hm
    exact absurd (h.ref_lt hx hb) (by omega)
/-- Replace an entry of the list of owned blocks. -/
inductive Repl : List OB → OB → OB → List OB → Prop
  | here {x y : OB} {l : List OB} : Repl (x :: l) x y (y :: l)
  | there {z x y : OB} {l l' : List OB} : Repl l x y l' → Repl (z :: l) x y (z :: l')
theorem Repl.mem {l l' : List OB} {x y : OB} (h : Repl l x y l') : x ∈ l := by
  induction h with
  | here => exact List.mem_cons_self
  | there _ ih => exact List.mem_cons_of_mem _ ih
theorem Repl.split {l l' : List OB} {x y : OB} (h : Repl l x y l') : ∃ p q, l = p ++ x :: q ∧ l' = p ++ y :: q := by
  induction h with
  | here => exact ⟨[], _, rfl, rfl⟩
  | there _ ih => obtain ⟨p, q, rfl, rfl⟩ := ih; exact ⟨_ :: p, q, rfl, rfl⟩
/-- An owned block is written: the same block, other cells. -/
theorem St.write {wE : World} {mu : List Nat} {M : View} {own own' : List OB} {w w' : World} (h : St wE mu M own w) {b : Nat} {cs cs' : List Value} {T : TypeId}
    (hr : Repl own ⟨some b, cs, T⟩ ⟨some b, cs', T⟩ own') (hb : OB.ok ⟨some b, cs', T⟩ w') (ho : ∀ k, k ≠ b → w'.heap[k]? = w.heap[k]?) (hs : w'.heap.size = w.heap.size)
    (h1 : w'.os = w.os) (h2 : w'.tape = w.tape) (h3 : w'.output = w.output) : St wE mu M own' w' := by
  obtain ⟨p, q, rfl, rfl⟩ := hr.split
  have hb' := h.sep ⟨some b, cs, T⟩ (by simp) b rfl
  have hnd := h.nodup
  simp only [List.filterMap_append, List.filterMap_cons] at hnd
  have hne : ∀ x, (x ∈ p ∨ x ∈ q) → x.ref ≠ some b := by
    intro x hx e
    have h4 := List.nodup_append.1 hnd
    rcases hx with hx | hx
    · exact h4.2.2 b (List.mem_filterMap.2 ⟨x, hx, e⟩) b (by simp) rfl
    · have := (List.nodup_cons.1 h4.2.1).1
      exact this (List.mem_filterMap.2 ⟨x, hx, e⟩)
  refine ⟨h1.trans h.os, h2.trans h.tape, h3.trans h.output, by rw [hs]; exact h.size, fun k hk hm => ?_, fun k o e => ?_, fun x hx k hk => ?_, fun x hx => ?_, ?_⟩
  · have : k ≠ b := fun e => by subst e; rcases hb'.2 with h5 | h5; omega; exact hm h5
    rw [ho k this]; exact h.frame k hk hm
  · have : k ≠ b := fun e' => by subst e'; rw [hb'.1] at e; cases e
    rw [ho k this]; exact h.imm k o e
  · simp only [List.mem_append, List.mem_cons] at hx
    rcases hx with hx | rfl | hx
    · exact h.sep x (by simp [hx]) k hk
    · simp only [Option.some.injEq] at hk; subst hk; exact hb'
    · exact h.sep x (by simp [hx]) k hk
  · simp only [List.mem_append, List.mem_cons] at hx
    rcases hx with hx | rfl | hx
    · exact OB.ok_mono (h.cells x (by simp [hx])) fun k hk => ho k fun e => hne x (.inl hx) (e ▸ hk)
    · exact hb
    · exact OB.ok_mono (h.cells x (by simp [hx])) fun k hk => ho k fun e => hne x (.inr hx) (e ▸ hk)
  · simp only [List.filterMap_append, List.filterMap_cons]; exact hnd
/-- An owned row gives way to a new one (an append that grew): the old block is forgotten. -/
theorem St.replace {wE : World} {mu : List Nat} {M : View} {own own' : List OB} {w w' : World} (h : St wE mu M own w) {x : OB} {cs' : List Value} {T : TypeId}
    (hr : Repl own x ⟨some w.heap.size, cs', T⟩ own')
    (hh : w'.heap = w.heap.push (.cells cs'.toArray T)) (h1 : w'.os = w.os) (h2 : w'.tape = w.tape) (h3 : w'.output = w.output) : St wE mu M own' w' := by
  obtain ⟨p, q, rfl, rfl⟩ := hr.split
  have hN := h.newBlock cs' T hh h1 h2 h3
  refine (hN.weaken (own' := ⟨some w.heap.size, cs', T⟩ :: (p ++ q)) (View.le.refl M) ?_).perm (List.perm_middle.symm)
  exact List.Sublist.cons_cons _ (List.Sublist.append (List.Sublist.refl p) (List.sublist_cons_self x q))
/-- A call that leaves all that was there as it was. -/
theorem St.call {wE : World} {mu : List Nat} {M : View} {own new : List OB} {w w' : World} (h : St wE mu M own w) (t : Tr w w' [] new) : St wE mu M (new ++ own) w' := by
  have hk : ∀ b, b < w.heap.size → w'.heap[b]? = w.heap[b]? := fun b hb => t.keep b hb (by simp)
  refine ⟨t.os.trans h.os, t.tape.trans h.tape, t.output.trans h.output, Nat.le_trans h.size t.size, fun b hb hm => by rw [hk b (Nat.lt_of_lt_of_le hb h.size)]; exact h.frame b hb hm, fun b o e => by rw [hk b (lt_of_heap (h.imm b o e))]; exact h.imm b o e, fun x hx b hb => ?_, fun x hx => ?_, ?_⟩
  · rcases List.mem_append.1 hx with hx | hx
    · have hf := t.fresh x hx b hb
      refine ⟨?_, .inl (Nat.le_trans h.size hf)⟩
      cases e : M b with
      | none => rfl
      | some o => exact absurd (lt_of_heap (h.imm b o e)) (by omega)
    · exact h.sep x hx b hb
  · rcases List.mem_append.1 hx with hx | hx
    · exact t.cells x (by simp [hx])
    · exact OB.ok_mono (h.cells x hx) fun b hb => hk b (h.ref_lt hx hb)
  · rw [List.filterMap_append]
    refine List.nodup_append.2 ⟨t.nodup, h.nodup, fun b hb c hc e => ?_⟩
    subst e
    obtain ⟨x, hx, hxb⟩ := List.mem_filterMap.1 hb
    obtain ⟨y, hy, hyb⟩ := List.mem_filterMap.1 hc
    have := t.fresh x hx b hxb
    have := h.ref_lt hy hyb
    omega
/-- A call that writes one block of ours, and leaves all else as it was. -/
theorem St.callMut {wE : World} {mu : List Nat} {M : View} {own own' new : List OB} {w w' : World} (h : St wE mu M own w) {b : Nat} {cs cs' : List Value} {T : TypeId}
    (hr : Repl own ⟨some b, cs, T⟩ ⟨some b, cs', T⟩ own') (t : Tr w w' [⟨some b, cs', T⟩] new) : St wE mu M (new ++ own') w' := by
  have hb := h.ref_lt hr.mem (b := b) rfl
  obtain ⟨fz, hfz, h1⟩ := OB.ok_some (t.cells ⟨some b, cs', T⟩ (by simp))
  -- the middle world: ours written, nothing new
  let wm : World := { w with heap := w.heap.setIfInBounds b (.cells cs'.toArray T fz) }
  have hm : St wE mu M own' wm := h.write hr (OB.ok_mk (fz := fz) (by simp [wm, hb]) hfz) (fun k hk => by simp [wm, Array.getElem?_setIfInBounds_ne (Ne.symm hk)]) (by simp [wm]) rfl rfl rfl
  refine hm.call ⟨t.os, t.tape, t.output, by simpa [wm] using t.size, fun k hk _ => ?_, fun x hx => t.cells x (by simp at hx; simp [hx]), fun x hx k hk => by simpa [wm] using t.fresh x hx k hk, t.nodup⟩
  by_cases e : k = b
  · subst e
    rw [h1]; simp [wm, hb]
  · rw [t.keep k (by simpa [wm] using hk) (by simp; exact fun h => e h.symm)]
    simp [wm, Array.getElem?_setIfInBounds_ne (Ne.symm e)]
/-- An owned block becomes part of the view. -/
def View.add (M : View) (b : Nat) (o : Obj) : View := fun k => if k = b then some o else M k
/-- The position of an owned block. -/
inductive Spl : List OB → OB → List OB → List OB → Prop
  | here {x : OB} {l : List OB} : Spl (x :: l) x [] l
  | there {z x : OB} {l p q : List OB} : Spl l x p q → Spl (z :: l) x (z :: p) q
theorem Spl.eq {l p q : List OB} {x : OB} (h : Spl l x p q) : l = p ++ x :: q := by
  induction h with
  | here => rfl
  | there _ ih => rw [ih]; rfl
/-- Some of the blocks, in whatever order. -/
inductive Pick : List OB → List OB → Prop
  | nil {l : List OB} : Pick l []
  | cons {l p q r : List OB} {x : OB} : Spl l x p q → Pick (p ++ q) r → Pick l (x :: r)
  | refl {l : List OB} : Pick l l
theorem St.pick {wE : World} {mu : List Nat} {M : View} {own own' : List OB} {w : World} (h : St wE mu M own w) (hp : Pick own own') : St wE mu M own' w := by
  have key : ∃ r, own.Perm (own' ++ r) := by
    clear h
    induction hp with
    | @nil l => exact ⟨l, by simp⟩
    | cons hs _ ih =>
      obtain ⟨r, hr⟩ := ih
      refine ⟨r, ?_⟩
      rw [hs.eq]
      exact List.perm_middle.trans (hr.cons _)
    | refl => exact ⟨[], by simp⟩
  obtain ⟨r, hr⟩ := key
  exact (h.perm hr).weaken (View.le.refl M) (List.sublist_append_left own' r)
abbrev SP := FM → View → List OB → Prop
structure Pr where
  P : Program
  n : Nat
  wE : World
  mu : List Nat
def real (C : Pr) (N : SP) (a : Act) (w : World) : Prop := ∃ fm M own, FrOk C.n a fm ∧ St C.wE C.mu M own w ∧ N fm M own
def post (C : Pr) (N : SP) (X : Nat → SP) (R : SP) : Exit → Act → World → Prop
  | .normal, a, w => real C N a w
  | .exit i, a, w => real C (X i) a w
  | .ret, a, w => real C R a w
  | _, _, _ => False
def CW (C : Pr) (c : Code) (fm : FM) (M : View) (own : List OB) (N : SP) (X : Nat → SP) (R : SP) : Prop :=
  ∀ a w, FrOk C.n a fm → St C.wE C.mu M own w → c.wp C.P (post C N X R) a w
section
variable {C : Pr} {fm : FM} {M : View} {own : List OB} {N : SP} {X : Nat → SP} {R : SP}
theorem cw_seq {x y : Code} (h : CW C x fm M own (fun fm M own => CW C y fm M own N X R) X R) : CW C (.seq x y) fm M own N X R := by
  intro a w hf hs
  refine wp_seq (Code.wp_mono (fun e a w q => ?_) (h a w hf hs))
  cases e <;> simp only [post, Exit.then] at q ⊢
  all_goals (first | exact q | skip)
  obtain ⟨fm', M', own', h1, h2, h3⟩ := q
  exact h3 a w h1 h2
theorem cw_block {id : Nat} {c : Code} (h : CW C c fm M own N (fun i => match Nat.beq i id with | true => N | false => X i) R) : CW C (.block id c) fm M own N X R := by
  intro a w hf hs
  refine wp_block (Code.wp_mono (fun e a w q => ?_) (h a w hf hs))
  cases e <;> simp only [post, Exit.inBlock] at q ⊢
  all_goals (first | exact q | skip)
  rename_i i
  by_cases e : i = id
  · subst e; simp at q ⊢; exact q
  · have : Nat.beq i id = false := beq_ne e
    rw [this] at q
    simp [e]; exact q
theorem cw_skip (h : N fm M own) : CW C .skip fm M own N X R := fun _ _ hf hs => wp_skip ⟨_, _, _, hf, hs, h⟩
theorem cw_exit {id : Nat} (h : X id fm M own) : CW C (.exit id) fm M own N X R := fun _ _ hf hs => wp_exit ⟨_, _, _, hf, hs, h⟩
theorem cw_ret (h : R fm M own) : CW C .ret fm M own N X R := fun _ _ hf hs => wp_ret ⟨_, _, _, hf, hs, h⟩
theorem cw_cond_true {c : Operand} {x y : Code} {b : Bool} (hc : ev fm c = some (.bool b)) (hb : b = true) (h : CW C x fm M own N X R) : CW C (.cond c x y) fm M own N X R :=
  fun a w hf hs => wp_cond_true (by subst hb; exact hf.eval hc) (h a w hf hs)
theorem cw_cond_false {c : Operand} {x y : Code} {b : Bool} (hc : ev fm c = some (.bool b)) (hb : b = false) (h : CW C y fm M own N X R) : CW C (.cond c x y) fm M own N X R :=
  fun a w hf hs => wp_cond_false (by subst hb; exact hf.eval hc) (h a w hf hs)
/-- Forget. -/
theorem cw_sub {c : Code} {fm' : FM} {M' : View} {own' : List OB} (hf : FM.sub fm' fm) (hM : View.le M' M) (ho : own'.Sublist own) (h : CW C c fm' M' own' N X R) : CW C c fm M own N X R :=
  fun a w h1 h2 => h a w (h1.sub hf) (h2.weaken hM ho)
theorem cw_pick {c : Code} {own' : List OB} (ho : Pick own own') (h : CW C c fm M own' N X R) : CW C c fm M own N X R :=
  fun a w h1 h2 => h a w h1 (h2.pick ho)
theorem cw_mono {c : Code} {N' : SP} {X' : Nat → SP} {R' : SP} (h : CW C c fm M own N X R) (hN : ∀ fm M own, N fm M own → N' fm M own) (hX : ∀ i fm M own, X i fm M own → X' i fm M own) (hR : ∀ fm M own, R fm M own → R' fm M own) : CW C c fm M own N' X' R' := by
  intro a w hf hs
  refine Code.wp_mono (fun e a w q => ?_) (h a w hf hs)
  cases e <;> simp only [post] at q ⊢
  · obtain ⟨fm', M', own', h1, h2, h3⟩ := q; exact ⟨fm', M', own', h1, h2, hN _ _ _ h3⟩
  · obtain ⟨fm', M', own', h1, h2, h3⟩ := q; exact ⟨fm', M', own', h1, h2, hX _ _ _ _ h3⟩
  · obtain ⟨fm', M', own', h1, h2, h3⟩ := q; exact ⟨fm', M', own', h1, h2, hR _ _ _ h3⟩
/-- What a loop's head knows, over a type of the loop's variables. -/
structure At {σ : Type} (F : σ → FM) (V : σ → View) (O : σ → List OB) (I : σ → Prop) (s : σ) (fm : FM) (M : View) (own : List OB) : Prop where
  fr : FM.sub (F s) fm
  vw : View.le (V s) M
  ow : Pick own (O s)
  inv : I s
theorem cw_loop {σ : Type} (F : σ → FM) (V : σ → View) (O : σ → List OB) (I : σ → Prop) (μ : σ → Nat) (s0 : σ) {c : Code} (h0 : At F V O I s0 fm M own)
    (round : ∀ s, I s → CW C c (F s) (V s) (O s) (fun fm M own => ∃ s', At F V O I s' fm M own ∧ μ s' < μ s) X R) : CW C (.loop c) fm M own N X R := by
  intro a w hf hs b k cs
  have key : ∀ m s a w, μ s = m → I s → FrOk C.n a (F s) → St C.wE C.mu (V s) (O s) w →
      ∃ e a' w', post C N X R e a' w' ∧ Arrives C.P (lone (b.at a (.code c :: .inLoop c :: k)) cs w) b k cs e a' w' := by
    intro m
    induction m using Nat.strongRecOn with
    | _ m ih =>
      intro s a w hm hI hf hs
      obtain ⟨e, a₁, w₁, hq, harr⟩ := round s hI a w hf hs b (.inLoop c :: k) cs
      cases e with
      | normal =>
        obtain ⟨fm', M', own', h1, h2, s', hat, hlt⟩ := hq
        obtain ⟨e₂, a₂, w₂, hq₂, harr₂⟩ := ih (μ s') (hm ▸ hlt) s' a₁ w₁ rfl hat.inv (h1.sub hat.fr) ((h2.pick hat.ow).weaken hat.vw (List.Sublist.refl _))
        exact ⟨e₂, a₂, w₂, hq₂, .of_steps (Steps.trans harr (.one step_inLoop)) harr₂⟩
      | exit id => exact ⟨.exit id, a₁, w₁, hq, .pass (x := .inLoop c) rfl (fun _ _ => .inl (by simp)) harr⟩
      | goto l => exact hq.elim
      | ret => exact ⟨.ret, a₁, w₁, hq, .pass (x := .inLoop c) rfl (fun _ _ => .inl (by simp)) harr⟩
      | panic ch => exact hq.elim
      | outgrown => exact hq.elim
  obtain ⟨e, a', w', hq, harr⟩ := key _ s0 a w rfl h0.inv (hf.sub h0.fr) ((hs.pick h0.ow).weaken h0.vw (List.Sublist.refl _))
  exact ⟨e, a', w', hq, .of_steps (.one step_loop) harr⟩
end
end Go.Fw
