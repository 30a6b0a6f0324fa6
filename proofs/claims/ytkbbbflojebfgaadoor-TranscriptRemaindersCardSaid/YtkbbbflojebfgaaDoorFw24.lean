/-
  The program logic, twenty-fourth part: the statement that ranges over a function, and the marks that it leaves on its frame.
-/
import Derived.Test.YtkbbbflojebfgaaDoorFw23
import Derived.LoopNIn
set_option linter.unusedSimpArgs false
set_option linter.unusedVariables false
namespace Go.Fw
open Go Go.RowKit

def mkD (D : Nat) : Deferred := { target := .collected D, args := #[] }

/-- What an operation does hangs on no deferred call. -/
theorem lst_defers {P : Program} {l0 : Array Oper} {K K' : Act → World → Prop} {ds : List Deferred} (hk : ∀ a w, K a w → K' { a with defers := ds } w) :
    ∀ (l : List Oper) (a : Act) (w : World), lst P l0 K l a w → lst P l0 K' l { a with defers := ds } w
  | [], a, w, h => hk _ _ h
  | o :: l, a, w, h => by
    unfold lst at h ⊢
    have hp : ∀ v, ({ a with defers := ds } : Act).put o.dst v = { a.put o.dst v with defers := ds } := fun v => by
      cases o.dst <;> rfl
    have he : ({ a with defers := ds } : Act).eval = a.eval := by
      funext x; cases x <;> rfl
    split
    · rename_i hw
      rw [if_pos hw] at h
      unfold Okay at h ⊢
      rw [he]
      generalize (execOp a.eval o).run P w = r at *
      cases r with
      | ok m w' =>
        cases m <;> simp only at h ⊢
        case value v => rw [hp]; exact lst_defers hk l _ _ h
        case skip => rw [hp]; exact lst_defers hk l _ _ h
        case enter f args => exact h.mono fun e w'' ⟨v, he, hv⟩ => ⟨v, he, by rw [hp]; exact lst_defers hk l _ _ hv⟩
      | halt x w' => exact h.elim
    · rename_i hw
      rw [if_neg hw] at h
      rw [hp]
      exact lst_defers hk l _ _ h

/-- A frame that bears marks. -/
structure StM (C : Pr) (ms : List Nat) (fm : FM) (M : View) (own : List OB) (a : Act) (w : World) : Prop where
  fr : FrOk C.n { a with defers := [] } fm
  ds : a.defers = ms.map mkD
  st : St C.wE C.mu M own w

abbrev SPM := List Nat → SP
def realM (C : Pr) (N : SPM) (a : Act) (w : World) : Prop := ∃ ms fm M own, StM C ms fm M own a w ∧ N ms fm M own
def postM (C : Pr) (N : SPM) (X : Nat → SPM) (R : SPM) : Exit → Act → World → Prop
  | .normal, a, w => realM C N a w
  | .exit i, a, w => realM C (X i) a w
  | .ret, a, w => realM C R a w
  | _, _, _ => False
def CWM (C : Pr) (c : Code) (ms : List Nat) (fm : FM) (M : View) (own : List OB) (N : SPM) (X : Nat → SPM) (R : SPM) : Prop :=
  ∀ a w, StM C ms fm M own a w → c.wpIn (Fr none) 0 C.P (postM C N X R) a w
/-- The blocks that the marks name. -/
def MK (C : Pr) (ms : List Nat) (M : View) : Prop := ms.Nodup ∧ ∀ D ∈ ms, M D = some (.deferred (some [])) ∧ C.wE.heap.size ≤ D

theorem MK.nil {C : Pr} {M : View} : MK C [] M := ⟨List.nodup_nil, fun _ h => by cases h⟩
theorem MK.le {C : Pr} {ms : List Nat} {M M' : View} (h : MK C ms M) (hl : View.le M M') : MK C ms M' := ⟨h.1, fun D hD => ⟨hl _ _ (h.2 D hD).1, (h.2 D hD).2⟩⟩
theorem MK.add {C : Pr} {ms : List Nat} {M : View} {b : Nat} {o : Obj} (h : MK C ms M) (hb : ∀ D ∈ ms, D ≠ b) : MK C ms (M.add b o) :=
  ⟨h.1, fun D hD => ⟨by rw [View.add_other (hb D hD)]; exact (h.2 D hD).1, (h.2 D hD).2⟩⟩

theorem StM.eval {C : Pr} {ms : List Nat} {fm : FM} {M : View} {own : List OB} {a : Act} {w : World} (h : StM C ms fm M own a w) {x : Operand} {v : Value} (hx : ev fm x = some v) : a.eval x = v := by
  have := h.fr.eval hx
  rw [← this]
  cases x <;> rfl

theorem St.alloc {wE : World} {mu : List Nat} {M : View} {own : List OB} {w : World} (h : St wE mu M own w) (o : Obj) : M w.heap.size = none ∧ St wE mu (M.add w.heap.size o) own (w.alloc o) := by
  have hn : M w.heap.size = none := by
    cases e : M w.heap.size with
    | none => rfl
    | some o' => exact absurd (lt_of_heap (h.imm _ o' e)) (by omega)
  have hlt : ∀ b, b < w.heap.size → (w.alloc o).heap[b]? = w.heap[b]? := fun b hb => by
    show (w.heap.push o)[b]? = _
    rw [Array.getElem?_push, if_neg (by omega)]
  refine ⟨hn, h.os, h.tape, h.output, ?_, fun b hb hm => ?_, fun b o1 e => ?_, fun x hx b hb => ?_, fun x hx => ?_, h.nodup⟩
  · show _ ≤ (w.heap.push o).size
    rw [Array.size_push]; exact Nat.le_succ_of_le h.size
  · rw [hlt b (Nat.lt_of_lt_of_le hb h.size)]; exact h.frame b hb hm
  · by_cases hk : b = w.heap.size
    · subst hk
      rw [View.add_same] at e
      cases e
      exact World.alloc_heap_new w o
    · rw [View.add_other hk] at e
      rw [hlt b (lt_of_heap (h.imm b o1 e))]
      exact h.imm b o1 e
  · have := h.ref_lt hx hb
    rw [View.add_other (by omega)]
    exact h.sep x hx b hb
  · exact OB.ok_mono (h.cells x hx) fun b hb => hlt b (h.ref_lt hx hb)

section
variable {C : Pr} {ms : List Nat} {fm : FM} {M : View} {own : List OB} {N : SPM} {X : Nat → SPM} {R : SPM}

theorem cwm_seq {x y : Code} (h : CWM C x ms fm M own (fun ms fm M own => CWM C y ms fm M own N X R) X R) : CWM C (.seq x y) ms fm M own N X R := by
  intro a w hs
  refine wpIn_seq (wpIn_mono (h a w hs) ?_)
  intro e a w q
  cases e <;> simp only [postM, Exit.then] at q ⊢
  all_goals (first | exact q | skip)
  obtain ⟨ms', fm', M', own', h1, h2⟩ := q
  exact h2 a w h1
theorem cwm_block {id : Nat} {c : Code} (h : CWM C c ms fm M own N (fun i => match Nat.beq i id with | true => N | false => X i) R) : CWM C (.block id c) ms fm M own N X R := by
  intro a w hs
  refine wpIn_block (wpIn_mono (h a w hs) ?_)
  intro e a w q
  cases e <;> simp only [postM, Exit.inBlock] at q ⊢
  all_goals (first | exact q | skip)
  rename_i i
  by_cases e : i = id
  · subst e; simp at q ⊢; exact q
  · have : Nat.beq i id = false := beq_ne e
    rw [this] at q
    simp [e]; exact q
theorem cwm_skip (h : N ms fm M own) : CWM C .skip ms fm M own N X R := fun _ _ hs => wpIn_skip ⟨_, _, _, _, hs, h⟩
theorem cwm_exit {id : Nat} (h : X id ms fm M own) : CWM C (.exit id) ms fm M own N X R := fun _ _ hs => wpIn_exit ⟨_, _, _, _, hs, h⟩
theorem cwm_ret (h : R ms fm M own) : CWM C .ret ms fm M own N X R := fun _ _ hs => wpIn_ret ⟨_, _, _, _, hs, h⟩
theorem cwm_cond {c : Operand} {x y : Code} {b : Bool} (hc : ev fm c = some (.bool b)) (ht : b = true → CWM C x ms fm M own N X R) (hf : b = false → CWM C y ms fm M own N X R) : CWM C (.cond c x y) ms fm M own N X R := by
  intro a w hs
  have hc' := hs.eval hc
  cases b with
  | true => exact wpIn_cond_true hc' (ht rfl a w hs)
  | false => exact wpIn_cond_false hc' (hf rfl a w hs)
theorem cwm_region {id : Nat} {l : List Oper} (h : OL C l.toArray l fm M own (fun fm' M' own' => N ms fm' M' own')) : CWM C (.region id l.toArray false) ms fm M own N X R := by
  intro a w hs
  refine wpIn_region_lit ?_
  have h1 := h _ w hs.fr hs.st
  have h2 := lst_defers (ds := a.defers) (K' := realM C N) (fun a' w' ⟨fm', M', own', k1, k2, k3⟩ => ⟨ms, fm', M', own', ⟨⟨k1.size, rfl, k1.get⟩, hs.ds, k2⟩, k3⟩) l _ w h1
  have h3 := wpListIn_of_lst (ro := none) (n := 0) (Q := postM C N X R) (rest := []) (fun a w hk => wpListIn_nil hk) l _ w h2
  rw [List.append_nil] at h3
  exact h3
theorem cwm_sub {c : Code} {fm' : FM} {M' : View} {own' : List OB} (hf : FM.sub fm' fm) (hM : View.le M' M) (ho : Pick own own') (h : CWM C c ms fm' M' own' N X R) : CWM C c ms fm M own N X R :=
  fun a w hs => h a w ⟨hs.fr.sub hf, hs.ds, (hs.st.pick ho).weaken hM (List.Sublist.refl _)⟩
theorem cwm_mono {c : Code} {N' : SPM} {X' : Nat → SPM} {R' : SPM} (h : CWM C c ms fm M own N X R) (hN : ∀ ms fm M own, N ms fm M own → N' ms fm M own) (hX : ∀ i ms fm M own, X i ms fm M own → X' i ms fm M own) (hR : ∀ ms fm M own, R ms fm M own → R' ms fm M own) : CWM C c ms fm M own N' X' R' := by
  intro a w hs
  refine wpIn_mono (h a w hs) ?_
  intro e a w q
  cases e <;> simp only [postM] at q ⊢
  case normal => obtain ⟨ms', fm', M', own', h1, h2⟩ := q; exact ⟨_, _, _, _, h1, hN _ _ _ _ h2⟩
  case exit i => obtain ⟨ms', fm', M', own', h1, h2⟩ := q; exact ⟨_, _, _, _, h1, hX i _ _ _ _ h2⟩
  case ret => obtain ⟨ms', fm', M', own', h1, h2⟩ := q; exact ⟨_, _, _, _, h1, hR _ _ _ _ h2⟩

/-- A loop; the state holds the marks too. -/
theorem cwm_loop {σ : Type} (T : σ → List Nat) (F : σ → FM) (V : σ → View) (O : σ → List OB) (I : σ → Prop) (μ : σ → Nat) (s0 : σ) {c : Code} (h0 : T s0 = ms) (hF : FM.sub (F s0) fm) (hV : View.le (V s0) M) (hO : Pick own (O s0)) (hI : I s0)
    (round : ∀ s, I s → CWM C c (T s) (F s) (V s) (O s) (fun ms fm M own => ∃ s', T s' = ms ∧ FM.sub (F s') fm ∧ View.le (V s') M ∧ Pick own (O s') ∧ I s' ∧ μ s' < μ s) X R) : CWM C (.loop c) ms fm M own N X R := by
  intro a w hs
  -- the measure is a number of the state: the loop by rounds
  have key : ∀ m s a w, μ s < m → I s → StM C (T s) (F s) (V s) (O s) a w → Code.roundsIn (Fr none) 0 C.P c (postM C N X R) m a w := by
    intro m
    induction m with
    | zero => intro s a w h; omega
    | succ m ih =>
      intro s a w hm hI hs
      rw [roundsIn_succ]
      refine wpIn_mono (round s hI a w hs) ?_
      intro e a w q
      cases e <;> simp only [postM, Exit.then] at q ⊢
      all_goals (first | exact q | skip)
      obtain ⟨ms', fm', M', own', h1, s', h2, h3, h4, h5, h6, h7⟩ := q
      subst h2
      exact ih s' a w (by omega) h6 ⟨h1.fr.sub h3, h1.ds, (h1.st.pick h5).weaken h4 (List.Sublist.refl _)⟩
  subst h0
  exact wpIn_loop_rounds (μ s0 + 1) (key _ s0 a w (by omega) hI ⟨hs.fr.sub hF, hs.ds, (hs.st.pick hO).weaken hV (List.Sublist.refl _)⟩)

/-- The statement that ranges over a function. -/
theorem cwm_rangeFunc {g : Operand} {ps : Array Tmp} {assign body c : Code} {f : FuncId} {fn : Func} {fs cs : List Value} {n' : Nat} (hg : ev fm g = some (.func (.func f) fs.toArray cs.toArray)) (hgo : goFunc C.P f = true)
    (hf : C.P.funcs[f]? = some fn) (hb : fn.body = some c) (hn : fn.ntmps = n') (hr : fn.results = #[]) (ha : Nat.ble (fs.length + 1 + cs.length) n' = true) (hmk : MK C ms M)
    (h : ∀ D tmps fid, C.wE.heap.size ≤ D → M D = none → M (D + 1) = none → (∀ D' ∈ ms, D' < D) → FrOk C.n { tmps := tmps, defers := [] } fm →
      CW ⟨C.P, n', C.wE, C.mu⟩ c (params 0 (fs ++ [Value.func (.yield (D + 1)) #[] #[]] ++ cs)) ((M.add D (.deferred (some []))).add (D + 1) (.loop { state := .ready, pending := none, fn := fid, tmps := tmps, params := ps, assign := assign, body := body, defers := D })) own
        (fun _ M' own' => ∃ rc, M' (D + 1) = some (.loop rc) ∧ rc.state ≠ .busy ∧ rc.pending = none ∧ ∀ o, N (D :: ms) fm (M'.add (D + 1) o) own') (fun _ _ _ _ => False)
        (fun _ M' own' => ∃ rc, M' (D + 1) = some (.loop rc) ∧ rc.state ≠ .busy ∧ rc.pending = none ∧ ∀ o, N (D :: ms) fm (M'.add (D + 1) o) own')) :
    CWM C (.rangeFunc g ps assign body) ms fm M own N X R := by
  intro a w hs
  have hge := hs.eval hg
  refine wpIn_rangeFunc fun fid _ => ?_
  obtain ⟨m1, s1⟩ := hs.st.alloc (.deferred (some []))
  obtain ⟨m2, s2⟩ := s1.alloc (.loop { state := .ready, pending := none, fn := fid, tmps := a.tmps, params := ps, assign := assign, body := body, defers := w.heap.size })
  have hsz : (w.alloc (.deferred (some []))).heap.size = w.heap.size + 1 := by simp
  rw [hsz] at m2 s2
  have m3 : M (w.heap.size + 1) = none := by
    rw [View.add_other (by omega)] at m2
    exact m2
  have hlt : ∀ D' ∈ ms, D' < w.heap.size := fun D' hD' => lt_of_heap (hs.st.imm _ _ (hmk.2 D' hD').1)
  have hwalk := h w.heap.size a.tmps fid hs.st.size m1 m3 hlt ⟨hs.fr.size, rfl, hs.fr.get⟩
  have hres : (resolve a.eval (rangeCall g (w.heap.size + 1)) 0).run C.P ((w.alloc (.deferred (some []))).alloc (.loop { state := .ready, pending := none, fn := fid, tmps := a.tmps, params := ps, assign := assign, body := body, defers := w.heap.size })) =
      .ok { target := .fn (.func f) cs.toArray, args := fs.toArray ++ #[Value.func (.yield (w.heap.size + 1)) #[] #[]] } ((w.alloc (.deferred (some []))).alloc (.loop { state := .ready, pending := none, fn := fid, tmps := a.tmps, params := ps, assign := assign, body := body, defers := w.heap.size })) := by
    have hm : Array.map a.eval #[Operand.const (Value.func (.yield (w.heap.size + 1)) #[] #[])] = #[Value.func (.yield (w.heap.size + 1)) #[] #[]] := by simp [Act.eval]
    simp only [resolve, rangeCall, hge, Deferred.ofValue, Sem.run_bind, Sem.run_pure, Result.andThen_ok, hm]
  refine ⟨w.heap.size + 1, [mkD w.heap.size], _, _, _, f, (fs ++ [Value.func (.yield (w.heap.size + 1)) #[] #[]] ++ cs).toArray, ((w.alloc (.deferred (some []))).alloc (.loop { state := .ready, pending := none, fn := fid, tmps := a.tmps, params := ps, assign := assign, body := body, defers := w.heap.size })), run_enterLoop_outer _ _ _ _ _, hres, fun _ _ => trivial, ?_, (fun hd => by cases hd), ?_⟩
  · have e4 : (fs ++ [Value.func (.yield (w.heap.size + 1)) #[] #[]] ++ cs).toArray = (fs.toArray ++ #[Value.func (.yield (w.heap.size + 1)) #[] #[]]) ++ cs.toArray := by simp
    rw [e4]
    exact run_callFunc hgo _ _
  · refine callsIn_fr (calls_of_wp hf hb (Code.wp_mono (fun e a' w' q => ?_) (hwalk _ _ ⟨?_, rfl, ?_⟩ s2)))
    · have fin : ∀ (a' : Act) (w' : World), real ⟨C.P, n', C.wE, C.mu⟩ (fun _ M' own' => ∃ rc, M' (w.heap.size + 1) = some (.loop rc) ∧ rc.state ≠ .busy ∧ rc.pending = none ∧ ∀ o, N (w.heap.size :: ms) fm (M'.add (w.heap.size + 1) o) own') a' w' →
          a'.defers = [] ∧ ∃ v, (results fn a'.tmps).run C.P w' = .ok v w' ∧ rangePost (Fr none) 0 C.P (w.heap.size + 1) (postM C N X R) { a with defers := [mkD w.heap.size] ++ a.defers } (.returned v) w' := by
        rintro a' w' ⟨fm', M', own', h1, h2, rc, h3, h4, h5, h6⟩
        refine ⟨h1.defers, _, results_of (rs := []) hr .nil h1 h2, _, _, run_endLoop (h2.imm _ _ h3) h4, ?_⟩
        rw [h5]
        refine ⟨w.heap.size :: ms, fm, _, own', ⟨⟨hs.fr.size, rfl, hs.fr.get⟩, ?_, h2.putObj h3 (.inl (Nat.le_succ_of_le hs.st.size))⟩, h6 _⟩
        show mkD w.heap.size :: a.defers = _
        rw [hs.ds]
        rfl
      cases e with
      | normal => exact fin a' w' q
      | ret => exact fin a' w' q
      | exit i => obtain ⟨_, _, _, _, _, h⟩ := q; exact h.elim
      | goto l => exact q.elim
      | panic c => exact q.elim
      | outgrown => exact q.elim
    · have := Nat.le_of_ble_eq_true ha
      simp [hn]; omega
    · intro i v hv
      obtain ⟨_, h2⟩ := params_get _ 0 i v hv
      simp only [Nat.sub_zero] at h2
      have hl := (List.getElem?_eq_some_iff.1 h2).1
      rw [Array.getElem?_append, if_pos (by simpa using hl)]
      rw [List.getElem?_toArray]
      exact h2
end

/-! ### A function that leaves with marks -/
def View.cellsOnly (F : View) : Prop := ∀ b o, F b = some o → ∃ cs T fz, o = .cells cs T fz
theorem View.cellsOnly_nil : View.cellsOnly View.nil := fun _ _ e => by cases e
theorem View.cellsOnly_add {F : View} {b : Nat} {cs : Array Value} {T : TypeId} {fz : Nat × Nat} (h : View.cellsOnly F) : View.cellsOnly (F.add b (.cells cs T fz)) := fun k o e => by
  unfold View.add at e
  split at e
  · injection e with e; exact ⟨_, _, _, e.symm⟩
  · exact h k o e

/-- What the end of such a function must show: its results lie in slots. -/
def EndsVM (C : Pr) (rs : List ResultVar) (Ψ : Value → View → List OB → Prop) : SPM := fun ms fm M own =>
  MK C ms M ∧ ∃ vs new F, RVal C.P fm View.nil [] rs vs ∧ Pick own new ∧ View.le F M ∧ View.fresh F C.wE ∧ View.cellsOnly F ∧ Ψ (tup vs) F new

theorem leavesM {P : Program} {wE : World} {fn : Func} {tmps : Array Value} {F : View} {new : List OB} {Φ : World → Prop} {R : Ending → World → Prop} (hF : View.cellsOnly F)
    (hend : ∀ w M, St wE [] M new w → View.le F M → LeavesIn (Fr none) 0 P fn tmps R [] .returning w) :
    ∀ (ms : List Nat) (M : View) (w : World), ms.Nodup → (∀ D ∈ ms, M D = some (.deferred (some [])) ∧ wE.heap.size ≤ D) → St wE [] M new w → View.le F M → LeavesInM (Fr none) 0 P fn tmps R (ms.map mkD) .returning w
  | [], M, w, _, _, hs, hl => hend w M hs hl
  | D :: ms, M, w, hn, hm, hs, hl => by
    obtain ⟨h1, h2⟩ := hm D (by simp)
    obtain ⟨n1, n2⟩ := List.nodup_cons.1 hn
    refine ⟨by simp, .inl ⟨D, _, rfl, run_takeDeferred (hs.imm _ _ h1), ?_⟩⟩
    refine leavesM (Φ := Φ) hF hend ms (M.add D (.deferred none)) _ n2 (fun D' hD' => ?_) (hs.putObj h1 (.inl h2)) (fun b o e => ?_)
    · have : D' ≠ D := fun e => n1 (e ▸ hD')
      rw [View.add_other this]
      exact hm D' (by simp [hD'])
    · by_cases hb : b = D
      · subst hb
        obtain ⟨cs, T, fz, ho⟩ := hF _ _ e
        have := hl _ _ e
        rw [h1] at this
        cases this
        cases ho
      · rw [View.add_other hb]; exact hl _ _ e

theorem enterVM {P : Program} {f : FuncId} {fn : Func} {c : Code} {n : Nat} {rs : List ResultVar} {args : List Value} {w : World} {Ψ : Value → View → List OB → Prop} {M : View}
    (hf : P.funcs[f]? = some fn) (hb : fn.body = some c) (hn : fn.ntmps = n) (hr : fn.results = rs.toArray) (ha : Nat.ble args.length n = true)
    (hM : View.le M (View.of w))
    (h : CWM ⟨P, n, w, []⟩ c [] (params 0 args) M [] (EndsVM ⟨P, n, w, []⟩ rs Ψ) (fun _ _ _ _ _ => False) (EndsVM ⟨P, n, w, []⟩ rs Ψ)) :
    FnV P f args w Ψ := by
  refine (callsIn_wide (n := 0)).1 (callsIn_of_wp_marks hf hb trivial (wpIn_mono (h _ _ ⟨⟨?_, rfl, ?_⟩, rfl, rfl, rfl, rfl, Nat.le_refl _, fun _ _ _ => rfl, hM, fun x hx => (by cases hx), fun x hx => (by cases hx), List.nodup_nil⟩) (fun e a w' q => ?_)))
  · have : args.length ≤ n := by simpa [Nat.ble_eq] using ha
    simp [hn]; omega
  · intro i v hv
    obtain ⟨_, h2⟩ := params_get args 0 i v hv
    simp only [Nat.sub_zero] at h2
    have hl : i < args.length := (List.getElem?_eq_some_iff.1 h2).1
    simp [Array.getElem?_append, hl]
    simpa [List.getElem?_eq_getElem hl] using h2
  · have fin : ∀ (a : Act) (w' : World), realM ⟨P, n, w, []⟩ (EndsVM ⟨P, n, w, []⟩ rs Ψ) a w' →
        LeavesInM (Fr none) 0 P fn a.tmps (fun e w' => ∃ v new F, e = .returned v ∧ Tr w w' [] new ∧ View.fresh F w ∧ View.le F (View.of w') ∧ (∀ x ∈ new, ∀ b, x.ref = some b → F b = none) ∧ Ψ v F new) a.defers .returning w' := by
      rintro a w' ⟨ms, fm, M', own', h1, h2, vs, new, F, h3, h4, h5, h6, h7, h8⟩
      rw [h1.ds]
      refine leavesM (Φ := fun _ => True) h7 (fun w2 M2 k1 k2 => ?_) ms M' w' h2.1 h2.2 (h1.st.pick h4) h5
      have hst : St w [] View.nil [] w2 := k1.weaken (View.nil_le _) (List.nil_sublist _)
      refine ⟨tup vs, results_of (a := { tmps := a.tmps, defers := [] }) hr h3 h1.fr hst, tup vs, new, F, rfl, ⟨k1.os, k1.tape, k1.output, k1.size, fun b hb _ => k1.frame b hb (by simp), fun x hx => k1.cells x (by simpa using hx), fun x hx b hb => ?_, k1.nodup⟩, h6, fun b o e => k1.imm b o (k2 b o e), fun x hx b hb => View.none_of k2 (k1.sep x hx b hb).1, h8⟩
      rcases (k1.sep x hx b hb).2 with h9 | h9
      · exact h9
      · cases h9
    cases e with
    | normal => exact fin a w' q
    | ret => exact fin a w' q
    | exit i => obtain ⟨_, _, _, _, _, h⟩ := q; exact h.elim
    | goto l => exact q.elim
    | panic c => exact q.elim
    | outgrown => exact q.elim
end Go.Fw
