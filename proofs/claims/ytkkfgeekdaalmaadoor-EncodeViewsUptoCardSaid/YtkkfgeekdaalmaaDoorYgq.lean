/-
  Texts joined: Fw29 Fw30 Fw31 Fw32 Fw33 Fw34.
-/
import Derived.Test.YtkkfgeekdaalmaaDoorYgp
import Derived.Sort.Row
import Derived.Deep.Draws
set_option linter.unusedSimpArgs false
set_option linter.unusedVariables false
namespace Go.Fw
open Go Go.RowKit Go.Sort
theorem ret_of_putRow {α : Type} [Inhabited α] {enc : α → Value} {P : Program} {f : FuncId} {args : List Value} {w : World} {b : Nat} {cs : List Value} {T : TypeId} {res : Value} {Q : Array α → Prop} (hok : OB.ok ⟨some b, cs, T⟩ w)
    (h : Calls P f args.toArray w fun e w' => e = .returned res ∧ ∃ (dk : Array α) (w1 : World), w1.heap = (putRow enc w b 0 dk).heap ∧ w1.os = w.os ∧ w1.tape = w.tape ∧ w1.output = w.output ∧ w' = w1 ∧ Q dk) :
    Ret P f args w (fun v m new => ∃ cs', m = [⟨some b, cs', T⟩] ∧ v = res ∧ new = [] ∧ ∃ dk, Q dk ∧ cs' = (putCells enc 0 dk cs.toArray).toList) := by
  refine Calls.mono h fun e w' ⟨h1, dk, w1, hh, h2, h3, h4, h5, h6⟩ => ?_
  subst h5
  obtain ⟨fz, hfz, hb⟩ := OB.ok_some hok
  have hsz : (putCells enc 0 dk cs.toArray).toList.length = cs.length := by simp [putCells]
  refine ⟨res, [⟨some b, (putCells enc 0 dk cs.toArray).toList, T⟩], [], h1, ⟨h2, h3, h4, by rw [hh, size_putRow]; exact Nat.le_refl _, fun k hk hm => ?_, fun x hx => ?_, fun x hx => (by cases hx), List.nodup_nil⟩, _, rfl, rfl, rfl, dk, h6, rfl⟩
  · have hkb : b ≠ k := fun e => hm _ (List.mem_singleton.2 rfl) (by rw [e])
    rw [hh]
    unfold putRow mapBlock
    rw [Array.getElem?_modify, if_neg hkb]
  · simp only [List.append_nil, List.mem_singleton] at hx
    subst hx
    refine OB.ok_mk (fz := fz) ?_ (by rw [hsz]; exact hfz)
    rw [hh]
    unfold putRow mapBlock
    simp [Array.getElem?_modify, hb, onCells]
theorem not_frozen {b off : Nat} {cs : List Value} {T : TypeId} {w : World} (hok : OB.ok ⟨some b, cs, T⟩ w) (h : off < cs.length) : w.frozen? ⟨b, off, none⟩ = false := by
  obtain ⟨⟨lo, hi⟩, hfz, hb⟩ := OB.ok_some hok
  unfold World.frozen?
  simp only [hb]
  rcases hfz with h1 | h1
  · have : ¬ lo ≤ off := by have : cs.length ≤ lo := h1; omega
    simp [this]
  · simp only [Prod.mk.injEq] at h1
    obtain ⟨rfl, rfl⟩ := h1
    simp
theorem cell_of_ok {b off : Nat} {cs : List Value} {T : TypeId} {w : World} {v : Value} (hok : OB.ok ⟨some b, cs, T⟩ w) (h : cs[off]? = some v) : w.cell? ⟨b, off, none⟩ = some v := by
  obtain ⟨fz, hfz, hb⟩ := OB.ok_some hok
  unfold World.cell?
  simp [hb, h]
end Go.Fw
set_option linter.unusedSimpArgs false
set_option linter.unusedVariables false
namespace Go.Fw
open Go Go.RowKit
/-- The place of a field of one cell. -/
def fieldQ (P : Program) (s i : Nat) : Option Nat := match P.underlying s with
  | some (.struct fs) => match fs[i]? with
    | some f => match aggB P f.type with
      | some false => some f.offset
      | _ => none
    | none => none
  | _ => none
section
variable {C : Pr} {fm : FM} {M : View} {own : List OB} {d : Option Nat} {ty : TypeId} {pos : String} {af : Array Edge} {g : Option (Nat × Bool)}
end
end Go.Fw
set_option linter.unusedSimpArgs false
set_option linter.unusedVariables false
namespace Go.Fw
open Go Go.RowKit
theorem Pick.skip1 {x : OB} : ∀ {l : List OB}, Pick (x :: l) l
  | [] => Pick.nil
  | y :: l => Pick.cons (Spl.there Spl.here) (Pick.skip1 (x := x) (l := l))
/-- The call takes the block x (there, or none) and hands back the block y in its place; all else is as it was. -/
def FnA (P : Program) (f : FuncId) (args : List Value) (w : World) (x : OB) (Ψ : Value → OB → Prop) : Prop :=
  Calls P f args.toArray w (fun e w' => ∃ v y, e = .returned v ∧ w'.os = w.os ∧ w'.tape = w.tape ∧ w'.output = w.output ∧ w.heap.size ≤ w'.heap.size ∧ (∀ b, b < w.heap.size → x.ref ≠ some b → w'.heap[b]? = w.heap[b]?) ∧ y.ok w' ∧ (∀ b, y.ref = some b → x.ref = some b ∨ w.heap.size ≤ b) ∧ Ψ v y)
section
variable {C : Pr} {fm : FM} {M : View} {own : List OB} {K : Value → View → List OB → Prop} {d : Option Nat} {ty : TypeId} {pos : String} {af : Array Edge} {g : Option (Nat × Bool)}
theorem s_callA {f : FuncId} {xs : List Operand} {vs : List Value} {ts : Array TypeId} {x : OB} {Ψ : Value → OB → Prop} {p q : List OB} (hx : evs fm xs = some vs) (hg : goFunc C.P f = true)
    (hc : ∀ w, St C.wE C.mu M own w → FnA C.P f vs w x Ψ) (hp : Spl own x p q) (k : ∀ v y, Ψ v y → K v M (p ++ y :: q)) :
    Stp C ⟨d, .call { callee := .value (.func f), args := xs.toArray, argTypes := ts }, ty, pos, af, g⟩ fm M own K := by
  intro a w hf hs
  unfold Okay
  rw [run_call hf hx hg w]
  refine Calls.mono (hc w hs) fun e w' ⟨v, y, h1, h2, h3, h4, h5, h6, h7, h8, h9⟩ => ?_
  rw [hp.eq] at hs
  refine ⟨v, h1, M, p ++ y :: q, ?_, k v y h9⟩
  have hxm : x ∈ p ++ x :: q := by simp
  have hne : ∀ z ∈ p ++ q, ∀ b, z.ref = some b → x.ref ≠ some b := by
    intro z hz b hb hxb
    have hnd := hs.nodup
    rw [List.filterMap_append, List.filterMap_cons_some hxb] at hnd
    have := List.perm_middle.nodup_iff.1 hnd
    rw [List.nodup_cons] at this
    refine this.1 ?_
    rw [← List.filterMap_append]
    exact List.mem_filterMap.2 ⟨z, hz, hb⟩
  have hzmem : ∀ z ∈ p ++ q, z ∈ p ++ x :: q := fun z hz => by
    rcases List.mem_append.1 hz with h | h
    · exact List.mem_append_left _ h
    · exact List.mem_append_right _ (List.mem_cons_of_mem _ h)
  have hsplit : ∀ z ∈ p ++ y :: q, z = y ∨ z ∈ p ++ q := fun z hz => by
    rcases List.mem_append.1 hz with h | h
    · exact .inr (List.mem_append_left _ h)
    · rcases List.mem_cons.1 h with h | h
      · exact .inl h
      · exact .inr (List.mem_append_right _ h)
  refine ⟨h2.trans hs.os, h3.trans hs.tape, h4.trans hs.output, Nat.le_trans hs.size h5, fun b hb hm => ?_, fun b o e => ?_, fun z hz b hb => ?_, fun z hz => ?_, ?_⟩
  · rw [h6 b (Nat.lt_of_lt_of_le hb hs.size) fun e => ?_]
    · exact hs.frame b hb hm
    · rcases (hs.sep x hxm b e).2 with h | h
      · omega
      · exact hm h
  · rw [h6 b (lt_of_heap (hs.imm b o e)) fun e2 => ?_]
    · exact hs.imm b o e
    · have := (hs.sep x hxm b e2).1
      rw [e] at this
      cases this
  · rcases hsplit z hz with rfl | hz
    · rcases h8 b hb with h | h
      · exact hs.sep x hxm b h
      · refine ⟨?_, .inl (Nat.le_trans hs.size h)⟩
        cases e : M b with
        | none => rfl
        | some o => have := lt_of_heap (hs.imm b o e); omega
    · exact hs.sep z (hzmem z hz) b hb
  · rcases hsplit z hz with rfl | hz
    · exact h7
    · refine OB.ok_mono (hs.cells z (hzmem z hz)) fun b hb => ?_
      exact h6 b (hs.ref_lt (hzmem z hz) hb) (hne z hz b hb)
  · have hnd := hs.nodup
    have hpq : ((p ++ q).filterMap OB.ref).Nodup := by
      refine List.Sublist.nodup ?_ hnd
      exact (List.Sublist.filterMap _ (List.Sublist.append (List.Sublist.refl _) (List.sublist_cons_self _ _)))
    rw [List.filterMap_append] at hpq ⊢
    cases hy : y.ref with
    | none => rw [List.filterMap_cons_none hy]; exact hpq
    | some b =>
      rw [List.filterMap_cons_some hy]
      refine List.perm_middle.nodup_iff.2 (List.nodup_cons.2 ⟨fun hm => ?_, hpq⟩)
      rw [← List.filterMap_append] at hm
      obtain ⟨z, hz, hzb⟩ := List.mem_filterMap.1 hm
      rcases h8 b hy with h | h
      · exact hne z hz b hzb h
      · have := hs.ref_lt (hzmem z hz) hzb
        omega
end
def EndsA (P : Program) (rs : List ResultVar) (Ψ : Value → OB → Prop) : SP := fun fm M own =>
  ∃ vs y, RVal P fm M own rs vs ∧ Pick own [y] ∧ Ψ (tup vs) y
theorem endsA {P : Program} {fm : FM} {M : View} {own : List OB} {rs : List ResultVar} {Ψ : Value → OB → Prop} {vs : List Value} (y : OB) (h : RVal P fm M own rs vs) (hn : Pick own [y]) (hk : Ψ (tup vs) y) : EndsA P rs Ψ fm M own := ⟨vs, y, h, hn, hk⟩
theorem enterA {P : Program} {f : FuncId} {fn : Func} {c : Code} {n : Nat} {rs : List ResultVar} {args : List Value} {w : World} {Ψ : Value → OB → Prop} {M : View} {x : OB}
    (hf : P.funcs[f]? = some fn) (hb : fn.body = some c) (hn : fn.ntmps = n) (hr : fn.results = rs.toArray) (ha : Nat.ble args.length n = true)
    (hM : View.le M (View.of w)) (hok : x.ok w) (hsep : ∀ b, x.ref = some b → M b = none)
    (h : CW ⟨P, n, w, x.ref.toList⟩ c (params 0 args) M [x] (EndsA P rs Ψ) (fun _ _ _ _ => False) (EndsA P rs Ψ)) : FnA P f args w x Ψ := by
  refine calls_of_wp hf hb (Code.wp_mono (fun e a w' q => ?_) (h _ _ ⟨?_, rfl, ?_⟩ ⟨rfl, rfl, rfl, Nat.le_refl _, fun _ _ _ => rfl, hM, fun z hz b hb => ?_, fun z hz => ?_, ?_⟩))
  · have fin : ∀ (a : Act) (w' : World), real ⟨P, n, w, x.ref.toList⟩ (EndsA P rs Ψ) a w' →
        a.defers = [] ∧ ∃ v, (results fn a.tmps).run P w' = .ok v w' ∧ ∃ u y, Ending.returned v = .returned u ∧ w'.os = w.os ∧ w'.tape = w.tape ∧ w'.output = w.output ∧ w.heap.size ≤ w'.heap.size ∧ (∀ b, b < w.heap.size → x.ref ≠ some b → w'.heap[b]? = w.heap[b]?) ∧ y.ok w' ∧ (∀ b, y.ref = some b → x.ref = some b ∨ w.heap.size ≤ b) ∧ Ψ u y := by
      rintro a w' ⟨fm, M', own', h1, h2, vs, y, h3, h4, h5⟩
      have hp := h2.pick h4
      refine ⟨h1.defers, tup vs, results_of hr h3 h1 h2, tup vs, y, rfl, h2.os, h2.tape, h2.output, h2.size, fun b hb hx => h2.frame b hb fun hm => ?_, hp.cells y (by simp), fun b hb => ?_, h5⟩
      · cases hxr : x.ref with
        | none => rw [hxr] at hm; cases hm
        | some k =>
          rw [hxr] at hm
          have : b = k := by simpa using hm
          exact hx (by rw [hxr, this])
      · rcases (hp.sep y (by simp) b hb).2 with h | h
        · exact .inr h
        · left
          cases hxr : x.ref with
          | none => rw [hxr] at h; cases h
          | some k =>
            rw [hxr] at h
            have : b = k := by simpa using h
            rw [this]
    cases e with
    | normal => exact fin a w' q
    | ret => exact fin a w' q
    | exit i => obtain ⟨_, _, _, _, _, h⟩ := q; exact h.elim
    | goto l => exact q.elim
    | panic c => exact q.elim
    | outgrown => exact q.elim
  · have : args.length ≤ n := by simpa [Nat.ble_eq] using ha
    simp [hn]; omega
  · intro i v hv
    obtain ⟨_, h2⟩ := params_get args 0 i v hv
    simp only [Nat.sub_zero] at h2
    have hl : i < args.length := (List.getElem?_eq_some_iff.1 h2).1
    simp [Array.getElem?_append, hl]
    simpa [List.getElem?_eq_getElem hl] using h2
  · obtain rfl := List.mem_singleton.1 hz
    exact ⟨hsep b hb, .inr (by rw [hb]; simp)⟩
  · obtain rfl := List.mem_singleton.1 hz
    exact hok
  · cases hxr : x.ref with
    | none => rw [List.filterMap_cons_none hxr]; exact List.nodup_nil
    | some k => rw [List.filterMap_cons_some hxr]; simp
end Go.Fw
set_option linter.unusedSimpArgs false
set_option linter.unusedVariables false
namespace Go.Fw
open Go Go.RowKit
/-- The blocks xs, taken out one by one. -/
inductive Pk : List OB → List OB → List OB → Prop
  | nil {own : List OB} : Pk own [] own
  | cons {own p q xs rest : List OB} {x : OB} : Spl own x p q → Pk (p ++ q) xs rest → Pk own (x :: xs) rest
theorem Pk.perm {own xs rest : List OB} (h : Pk own xs rest) : own.Perm (xs ++ rest) := by
  induction h with
  | nil => exact List.Perm.refl _
  | cons hs _ ih =>
    rw [hs.eq]
    exact List.perm_middle.trans (List.Perm.cons _ ih)
abbrev refs (xs : List OB) : List Nat := xs.filterMap OB.ref
/-- The blocks of F were made since, or taken. -/
def View.freshM (F : View) (w : World) (mu : List Nat) : Prop := ∀ b o, F b = some o → w.heap.size ≤ b ∨ b ∈ mu
theorem View.freshM_nil (w : World) (mu : List Nat) : View.freshM View.nil w mu := fun _ _ e => by cases e
/-- The block lies in the view. -/
def OB.inV (x : OB) (M : View) : Prop := ∀ b, x.ref = some b → ∃ fz, M b = some (.cells x.cs.toArray x.ty fz)
theorem SlA.inV {α : Type} {enc : α → List Value} {sz : Nat} (he : ∀ x, (enc x).length = sz) {M : View} {r : Option Nat} {A : Option Addr} {xs : List α} {sp : List Value} {T : TypeId} (h : OB.inV ⟨r, flat enc xs ++ sp, T⟩ M) (hn : r = none → xs = []) : SlA M enc sz (base r A) xs (r.getD 0) 0 := by
  cases r with
  | none =>
    have := hn rfl
    subst this
    exact ⟨fun h => by simp at h, fun i h => by simp at h⟩
  | some b =>
    obtain ⟨fz, h⟩ := h b rfl
    exact SlA.ofCells he h
/-- The call takes the blocks xs and hands back the blocks ys in their place, and the view F for reading; all else is as it was. -/
def FnM (P : Program) (f : FuncId) (args : List Value) (w : World) (xs : List OB) (Ψ : Value → View → List OB → Prop) : Prop :=
  Calls P f args.toArray w (fun e w' => ∃ v ys F, e = .returned v ∧ w'.os = w.os ∧ w'.tape = w.tape ∧ w'.output = w.output ∧ w.heap.size ≤ w'.heap.size ∧ (∀ b, b < w.heap.size → b ∉ refs xs → w'.heap[b]? = w.heap[b]?) ∧ View.freshM F w (refs xs) ∧ View.le F (View.of w') ∧ (∀ y ∈ ys, y.ok w' ∧ ∀ b, y.ref = some b → (b ∈ refs xs ∨ w.heap.size ≤ b) ∧ F b = none) ∧ (refs ys).Nodup ∧ Ψ v F ys)
theorem FnM.mono {P : Program} {f : FuncId} {args : List Value} {w : World} {xs : List OB} {Ψ Ψ' : Value → View → List OB → Prop} (h : FnM P f args w xs Ψ) (hk : ∀ v F ys, Ψ v F ys → Ψ' v F ys) : FnM P f args w xs Ψ' :=
  Calls.mono h fun _ _ ⟨v, ys, F, h1, h2, h3, h4, h5, h6, h7, h8, h9, h10, h11⟩ => ⟨v, ys, F, h1, h2, h3, h4, h5, h6, h7, h8, h9, h10, hk _ _ _ h11⟩
/-- What is known where such a call begins: the view M2 holds all that is there but the blocks xs. -/
structure RdM (M2 : View) (xs rest : List OB) (M : View) (w : World) : Prop where
  le : View.le M M2
  lw : View.le M2 (View.of w)
  rest : ∀ x ∈ rest, OB.inV x M2
  ok : ∀ x ∈ xs, x.ok w
  sep : ∀ x ∈ xs, ∀ b, x.ref = some b → M2 b = none
  nd : (refs xs).Nodup
theorem St.rd {wE : World} {mu : List Nat} {M : View} {xs rest : List OB} {w : World} (hs : St wE mu M (xs ++ rest) w) : ∃ M2, RdM M2 xs rest M w := by
  have hnd := hs.nodup
  rw [List.filterMap_append] at hnd
  obtain ⟨hnx, hnr, hdis⟩ := List.nodup_append.1 hnd
  refine ⟨fun b => if b ∈ refs xs then none else View.of w b, fun b o e => ?_, fun b o e => ?_, fun x hx b hb => ?_, fun x hx => hs.cells x (List.mem_append_left _ hx), fun x hx b hb => ?_, hnx⟩
  · rw [if_neg fun h => ?_]
    · exact hs.imm b o e
    · obtain ⟨x, hx, hxb⟩ := List.mem_filterMap.1 h
      rw [(hs.sep x (List.mem_append_left _ hx) b hxb).1] at e
      cases e
  · split at e
    · cases e
    · exact e
  · rw [if_neg fun h => hdis b h b (List.mem_filterMap.2 ⟨x, hx, hb⟩) rfl]
    have := hs.cells x (List.mem_append_right _ hx)
    obtain ⟨r, cs, T⟩ := x
    dsimp only at hb
    subst hb
    obtain ⟨fz, _, hh⟩ := OB.ok_some this
    exact ⟨fz, hh⟩
  · rw [if_pos (List.mem_filterMap.2 ⟨x, hx, hb⟩)]
section
variable {C : Pr} {fm : FM} {M : View} {own : List OB} {K : Value → View → List OB → Prop} {d : Option Nat} {ty : TypeId} {pos : String} {af : Array Edge} {g : Option (Nat × Bool)}
theorem s_callM {f : FuncId} {as_ : List Operand} {vs : List Value} {ts : Array TypeId} {xs rest : List OB} {Ψ : Value → View → List OB → Prop} (hx : evs fm as_ = some vs) (hg : goFunc C.P f = true)
    (hp : Pk own xs rest) (hc : ∀ w M2, St C.wE C.mu M own w → RdM M2 xs rest M w → FnM C.P f vs w xs Ψ) (k : ∀ v F ys M', Ψ v F ys → View.le M M' → View.le F M' → View.freshM F C.wE C.mu → K v M' (ys ++ rest)) :
    Stp C ⟨d, .call { callee := .value (.func f), args := as_.toArray, argTypes := ts }, ty, pos, af, g⟩ fm M own K := by
  intro a w hf hs0
  unfold Okay
  rw [run_call hf hx hg w]
  have hs := hs0.perm hp.perm
  obtain ⟨M2, hrd⟩ := hs.rd
  refine Calls.mono (hc w M2 hs0 hrd) fun e w' ⟨v, ys, F, h1, h2, h3, h4, h5, h6, h7, h8, h9, h10, h11⟩ => ?_
  have hxr : ∀ b, b ∈ refs xs → M b = none ∧ (C.wE.heap.size ≤ b ∨ b ∈ C.mu) := fun b hb => by
    obtain ⟨x, hx, hxb⟩ := List.mem_filterMap.1 hb
    exact hs.sep x (List.mem_append_left _ hx) b hxb
  have himm : ∀ b o, M b = some o → w'.heap[b]? = some o := fun b o hm => by
    rw [h6 b (lt_of_heap (hs.imm b o hm)) fun e2 => by rw [(hxr b e2).1] at hm; cases hm]
    exact hs.imm b o hm
  have hl1 : View.le M (View.join M F) := fun b o e => by unfold View.join; rw [e]
  have hl2 : View.le F (View.join M F) := fun b o e => by
    unfold View.join
    cases hm : M b with
    | none => exact e
    | some o' =>
      have e1 := himm b o' hm
      have e2 : w'.heap[b]? = some o := h8 b o e
      rw [e1] at e2
      exact e2
  have hnd := hs.nodup
  rw [List.filterMap_append] at hnd
  obtain ⟨_, hnr, hdis⟩ := List.nodup_append.1 hnd
  refine ⟨v, h1, View.join M F, ys ++ rest, ⟨h2.trans hs.os, h3.trans hs.tape, h4.trans hs.output, Nat.le_trans hs.size h5, fun b hb hm => ?_, fun b o e => ?_, fun y hy b hb => ?_, fun y hy => ?_, ?_⟩, k v F ys _ h11 hl1 hl2 (fun b o e => ?_)⟩
  · rw [h6 b (Nat.lt_of_lt_of_le hb hs.size) fun e => ?_]
    · exact hs.frame b hb hm
    · rcases (hxr b e).2 with h | h
      · omega
      · exact hm h
  · unfold View.join at e
    split at e
    · rename_i o' hm
      rw [← e]
      exact himm b o' hm
    · exact h8 b o e
  · rcases List.mem_append.1 hy with hy | hy
    · obtain ⟨h12, h13⟩ := (h9 y hy).2 b hb
      rcases h12 with h12 | h12
      · refine ⟨?_, (hxr b h12).2⟩
        unfold View.join
        rw [(hxr b h12).1]
        exact h13
      · refine ⟨?_, .inl (Nat.le_trans hs.size h12)⟩
        unfold View.join
        cases e : M b with
        | none => exact h13
        | some o => have := lt_of_heap (hs.imm b o e); omega
    · obtain ⟨g1, g2⟩ := hs.sep y (List.mem_append_right _ hy) b hb
      refine ⟨?_, g2⟩
      unfold View.join
      rw [g1]
      cases hF : F b with
      | none => rfl
      | some o =>
        rcases h7 b o hF with h | h
        · exact absurd (hs.ref_lt (List.mem_append_right _ hy) hb) (by omega)
        · exact absurd rfl (hdis b h b (List.mem_filterMap.2 ⟨y, hy, hb⟩))
  · rcases List.mem_append.1 hy with hy | hy
    · exact (h9 y hy).1
    · refine OB.ok_mono (hs.cells y (List.mem_append_right _ hy)) fun b hb => ?_
      refine h6 b (hs.ref_lt (List.mem_append_right _ hy) hb) fun e => ?_
      exact hdis b e b (List.mem_filterMap.2 ⟨y, hy, hb⟩) rfl
  · rw [List.filterMap_append]
    refine List.nodup_append.2 ⟨h10, hnr, fun b hb b' hb' e => ?_⟩
    subst e
    obtain ⟨y, hy, hyb⟩ := List.mem_filterMap.1 hb
    obtain ⟨z, hz, hzb⟩ := List.mem_filterMap.1 hb'
    rcases ((h9 y hy).2 b hyb).1 with h | h
    · exact hdis b h b hb' rfl
    · have := hs.ref_lt (List.mem_append_right _ hz) hzb
      omega
  · rcases h7 b o e with h | h
    · exact .inl (Nat.le_trans hs.size h)
    · exact (hxr b h).2
end
def EndsW (P : Program) (wE : World) (mu : List Nat) (rs : List ResultVar) (Ψ : Value → View → List OB → Prop) : SP := fun fm M own =>
  ∃ vs ys zs F0, RVal P fm M own rs vs ∧ Pick own (ys ++ zs) ∧ View.le F0 M ∧ View.freshM F0 wE mu ∧ ∀ F, View.le F0 F → (∀ z ∈ zs, OB.inV z F) → Ψ (tup vs) F ys
/-- ys are handed back, zs go over into the view. -/
theorem endsW {P : Program} {wE : World} {mu : List Nat} {fm : FM} {M : View} {own : List OB} {rs : List ResultVar} {Ψ : Value → View → List OB → Prop} {vs : List Value} (ys zs : List OB) (F0 : View) (h : RVal P fm M own rs vs) (hn : Pick own (ys ++ zs)) (hF : View.le F0 M) (hf : View.freshM F0 wE mu) (hk : ∀ F, View.le F0 F → (∀ z ∈ zs, OB.inV z F) → Ψ (tup vs) F ys) : EndsW P wE mu rs Ψ fm M own := ⟨vs, ys, zs, F0, h, hn, hF, hf, hk⟩
theorem enterW {P : Program} {f : FuncId} {fn : Func} {c : Code} {n : Nat} {rs : List ResultVar} {args : List Value} {w : World} {Ψ : Value → View → List OB → Prop} {M : View} {xs : List OB}
    (hf : P.funcs[f]? = some fn) (hb : fn.body = some c) (hn : fn.ntmps = n) (hr : fn.results = rs.toArray) (ha : Nat.ble args.length n = true)
    (hM : View.le M (View.of w)) (hok : ∀ x ∈ xs, x.ok w) (hsep : ∀ x ∈ xs, ∀ b, x.ref = some b → M b = none) (hnd : (refs xs).Nodup)
    (h : CW ⟨P, n, w, refs xs⟩ c (params 0 args) M xs (EndsW P w (refs xs) rs Ψ) (fun _ _ _ _ => False) (EndsW P w (refs xs) rs Ψ)) : FnM P f args w xs Ψ := by
  refine calls_of_wp hf hb (Code.wp_mono (fun e a w' q => ?_) (h _ _ ⟨?_, rfl, ?_⟩ ⟨rfl, rfl, rfl, Nat.le_refl _, fun _ _ _ => rfl, hM, fun z hz b hb => ⟨hsep z hz b hb, .inr (List.mem_filterMap.2 ⟨z, hz, hb⟩)⟩, hok, hnd⟩))
  · have fin : ∀ (a : Act) (w' : World), real ⟨P, n, w, refs xs⟩ (EndsW P w (refs xs) rs Ψ) a w' →
        a.defers = [] ∧ ∃ v, (results fn a.tmps).run P w' = .ok v w' ∧ ∃ u ys F, Ending.returned v = .returned u ∧ w'.os = w.os ∧ w'.tape = w.tape ∧ w'.output = w.output ∧ w.heap.size ≤ w'.heap.size ∧ (∀ b, b < w.heap.size → b ∉ refs xs → w'.heap[b]? = w.heap[b]?) ∧ View.freshM F w (refs xs) ∧ View.le F (View.of w') ∧ (∀ y ∈ ys, y.ok w' ∧ ∀ b, y.ref = some b → (b ∈ refs xs ∨ w.heap.size ≤ b) ∧ F b = none) ∧ (refs ys).Nodup ∧ Ψ u F ys := by
      rintro a w' ⟨fm, M', own', h1, h2, vs, ys, zs, F0, h3, h4, h5, h6, h7⟩
      have hp := h2.pick h4
      have hnd2 := hp.nodup
      rw [List.filterMap_append] at hnd2
      obtain ⟨hny, hnz, hdis⟩ := List.nodup_append.1 hnd2
      refine ⟨h1.defers, tup vs, results_of hr h3 h1 h2, tup vs, ys, View.join F0 (fun b => if b ∈ refs zs then w'.heap[b]? else none), rfl, h2.os, h2.tape, h2.output, h2.size, fun b hb hx => h2.frame b hb hx, fun b o e => ?_, fun b o e => ?_, fun y hy => ⟨hp.cells y (List.mem_append_left _ hy), fun b hb => ?_⟩, hny, h7 _ (fun b o e => by unfold View.join; rw [e]) fun z hz b hb => ?_⟩
      · unfold View.join at e
        split at e
        · rename_i o' e'
          exact h6 b o' e'
        · dsimp only at e
          split at e
          · rename_i hm
            obtain ⟨z, hz, hzb⟩ := List.mem_filterMap.1 hm
            exact (hp.sep z (List.mem_append_right _ hz) b hzb).2
          · cases e
      · unfold View.join at e
        split at e
        · rename_i o' e'
          rw [← e]
          exact h2.imm b o' (h5 b o' e')
        · dsimp only at e
          split at e
          · exact e
          · cases e
      · obtain ⟨g1, g2⟩ := hp.sep y (List.mem_append_left _ hy) b hb
        refine ⟨g2.symm, ?_⟩
        unfold View.join
        rw [View.none_of h5 g1]
        dsimp only
        rw [if_neg fun h => hdis b (List.mem_filterMap.2 ⟨y, hy, hb⟩) b h rfl]
      · obtain ⟨g1, _⟩ := hp.sep z (List.mem_append_right _ hz) b hb
        have hzc := hp.cells z (List.mem_append_right _ hz)
        unfold View.join
        rw [View.none_of h5 g1]
        dsimp only
        rw [if_pos (List.mem_filterMap.2 ⟨z, hz, hb⟩)]
        obtain ⟨r, cs, T⟩ := z
        dsimp only at hb
        subst hb
        obtain ⟨fz, _, hh⟩ := OB.ok_some hzc
        exact ⟨fz, hh⟩
    cases e with
    | normal => exact fin a w' q
    | ret => exact fin a w' q
    | exit i => obtain ⟨_, _, _, _, _, h⟩ := q; exact h.elim
    | goto l => exact q.elim
    | panic c => exact q.elim
    | outgrown => exact q.elim
  · have : args.length ≤ n := by simpa [Nat.ble_eq] using ha
    simp [hn]; omega
  · intro i v hv
    obtain ⟨_, h2⟩ := params_get args 0 i v hv
    simp only [Nat.sub_zero] at h2
    have hl : i < args.length := (List.getElem?_eq_some_iff.1 h2).1
    simp [Array.getElem?_append, hl]
    simpa [List.getElem?_eq_getElem hl] using h2
end Go.Fw
set_option linter.unusedSimpArgs false
set_option linter.unusedVariables false
namespace Go.Fw
open Go Go.RowKit
theorem qN {p : Prop} (h : p := by first | ((focus ((repeat constructor); done))) | fail) : p := h
theorem qR {p : Prop} (h : p := by first | ((focus ((repeat (first | exact rfl | constructor)); done))) | fail) : p := h
theorem qS {p : Prop} (h : p := by first | ((focus ((repeat (first | exact Spl.here | apply Spl.there)); done))) | fail) : p := h
theorem qZ {p : Prop} (h : p := by first | exact Nat.zero_add _ | exact Nat.add_zero _ | exact rfl | fail) : p := h
theorem qA {p : Prop} (h : p := by first | exact rfl | assumption | fail) : p := h
theorem qO {p : Prop} (h : p := by first | omega | (simp; omega) | (simp; done) | fail) : p := h
theorem qT {p : Prop} (h : p := by first | (focus ((repeat constructor); done)) | (apply SetAt.set; first | omega | (simp; omega) | (simp; done)) | fail) : p := h
theorem qP {p : Prop} (h : p := by first | ((apply RdN.own; (focus ((repeat constructor); done)); exact GetN.cons rfl GetN.nil)) | fail) : p := h
theorem qQ {p : Prop} (h : p := by first | ((apply RdN.own; (focus ((repeat constructor); done)); (focus ((repeat (first | exact rfl | constructor)); done)))) | fail) : p := h
theorem qW {p : Prop} (h : p := by first | ((focus (apply Wk.mk; (first | exact View.le.refl _ | assumption | exact View.le.trans (by assumption) (by assumption)); (repeat constructor); done))) | fail) : p := h
theorem qK {p : Prop} (h : p := by first | ((repeat (first | exact Pick.nil | (apply Pick.cons; (focus ((repeat (first | exact Spl.here | apply Spl.there)); done))) | exact Pick.refl | exact Pick.skip1 | exact Pick.skip2)); done) | fail) : p := h
end Go.Fw
set_option linter.unusedSimpArgs false
set_option linter.unusedVariables false
namespace Go.Fw
open Go Go.RowKit
/-- The address at which such a row begins. -/
def bof : Option Nat → Nat → Option Addr → Option Addr
  | some b, o, _ => some ⟨b, o, none⟩
  | none, _, a => a
/-- A row of ours behind the cells fr: n elements of sz cells, so many places at least. -/
structure SF (r : Option Nat) (o n cap : Nat) (fr xs sp : List Value) (sz : Nat) : Prop where
  hfr : fr.length = o
  hlen : xs.length = n * sz
  hcap : cap * sz ≤ xs.length + sp.length
  hle : n ≤ cap
  hnone : r = none → cap = 0
section
variable {C : Pr} {fm : FM} {M : View} {own : List OB} {K : Value → View → List OB → Prop} {d : Option Nat} {ty : TypeId} {pos : String} {af : Array Edge} {g : Option (Nat × Bool)}
/-- The code is the region with this number. -/
theorem cw_isreg (id : Nat) {ops : Array Oper} {b : Bool} {N : SP} {X : Nat → SP} {R : SP} (h : CW C (.region id ops b) fm M own N X R) : CW C (.region id ops b) fm M own N X R := h
end
end Go.Fw
