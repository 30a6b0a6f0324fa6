/-
  Texts joined: Fw5 Fw6 Fw7.
-/
import Derived.Test.YtkkfgeekdaalmaaDoorYgb
import Derived.Laws.Slices
import Derived.Deep.AppendSrc
set_option linter.unusedSimpArgs false
set_option linter.unusedVariables false
namespace Go.Fw
open Go Go.RowKit
/-- The address at which an owned slice begins; an empty one may begin anywhere. -/
def base : Option Nat → Option Addr → Option Addr
  | some b, _ => some ⟨b, 0, none⟩
  | none, a => a
/-- A slice that is read: where there is an element it begins at (b, off), and its elements' cells are there. -/
structure SlA {α : Type} (M : View) (enc : α → List Value) (sz : Nat) (a : Option Addr) (xs : List α) (b off : Nat) : Prop where
  at_ : 0 < xs.length → a = some ⟨b, off, none⟩
  cells : ∀ i (h : i < xs.length), GetN (M.cell b) (off + i * sz) sz (enc xs[i])
theorem SlA.mono {α : Type} {M N : View} {enc : α → List Value} {sz : Nat} {a : Option Addr} {xs : List α} {b off : Nat} (h : SlA M enc sz a xs b off) (hM : View.le M N) : SlA N enc sz a xs b off :=
  ⟨h.at_, fun i hi => (h.cells i hi).mono fun _ _ e => hM.cell e⟩
def ints (xs : List Int) : List Value := xs.map (Value.int .i64)
@[simp] theorem ints_length (xs : List Int) : (ints xs).length = xs.length := by simp [ints]
def bytesB (P : Program) (t : TypeId) : Option Nat := (P.info? t).map (·.bytes)
section
variable {C : Pr} {fm : FM} {M : View} {own : List OB} {K : Value → View → List OB → Prop} {d : Option Nat} {ty : TypeId} {pos : String} {af : Array Edge} {g : Option (Nat × Bool)}
theorem s_indexK {t e sz b o n c k : Nat} {a : Option Addr} {x y : Operand} {ik : IntKind} (hx : ev fm x = some (.slice a n c)) (hy : ev fm y = some (.int ik (k : Nat))) (ht : tdSlice C.P t = some e) (hs : sizeB C.P e = some sz) (ha : a = some ⟨b, o, none⟩) (hi : k < n) :
    Pur C ⟨d, .indexAddr t x y, ty, pos, af, g⟩ fm M own (.pointer (some ⟨b, o + k * sz, none⟩)) := by
  subst ha
  exact s_indexAddr hx hy ht hs ⟨by omega, by omega⟩ (by simp)
/-- A bound of a slice expression. -/
def bnd (fm : FM) : Option Operand → Nat → Nat → Prop
  | none, n, r => r = n
  | some x, _, r => ∃ k, ev fm x = some (.int k (r : Int))
def slicedA (a : Option Addr) (l m sz : Nat) : Option Addr := if m = l then a else a.map (·.add (l * sz))
theorem slicedA_some {b o l m sz : Nat} (h : m ≠ l) : slicedA (some ⟨b, o, none⟩) l m sz = some ⟨b, o + l * sz, none⟩ := by
  simp [slicedA, h, Addr.add_lit]
theorem SlA.sub {α : Type} {enc : α → List Value} {sz : Nat} {a : Option Addr} {xs : List α} {b off l h m : Nat} (hs : SlA M enc sz a xs b off) (h1 : l ≤ h) (h2 : h ≤ xs.length) (h3 : h ≤ m) :
    SlA M enc sz (slicedA a l m sz) ((xs.take h).drop l) b (off + l * sz) := by
  have hlen : ((xs.take h).drop l).length = h - l := by simp; omega
  refine ⟨fun h0 => ?_, fun i hi => ?_⟩
  · rw [hs.at_ (by omega), slicedA_some (by omega)]
  · have := hs.cells (l + i) (by omega)
    rw [show off + l * sz + i * sz = off + (l + i) * sz by rw [Nat.add_mul]; omega]
    simpa using this
theorem s_slice {t e sz n c l h m : Nat} {a : Option Addr} {x : Operand} {lo hi mx : Option Operand} (hx : ev fm x = some (.slice a n c)) (ht : tdSlice C.P t = some e) (hs : sizeB C.P e = some sz)
    (hl : bnd fm lo 0 l) (hh : bnd fm hi n h) (hm : bnd fm mx c m) (hmx : mx.isSome = true → hi.isSome = true) (h1 : l ≤ h) (h2 : h ≤ m) (h3 : m ≤ c) :
    Pur C ⟨d, .slice t x lo hi mx, ty, pos, af, g⟩ fm M own (.slice (slicedA a l m sz) (h - l) (m - l)) :=
  fun act w hf _ => by
    have ht' := tdSlice_eq ht
    have he : C.P.elem t = e := by simp [Program.elem, ht']
    have hsz : (sizeOf (C.P.elem t)).run C.P w = .ok sz w := by rw [he]; exact run_sizeOf hs w
    have ht2 : C.P.underlying t = some (.slice (C.P.elem t)) := by rw [he]; exact ht'
    have key : (Instr.slice t (.slice a n c) (lo.map act.eval) (hi.map act.eval) (mx.map act.eval)).run C.P w = .ok (sliced a l h m sz) w := by
      rw [run_slice_any (P := C.P) w t a n c ht2]
      have hb : (Instr.sliceBounds true n c (lo.map act.eval) (hi.map act.eval) (mx.map act.eval)).run C.P w = .ok (l, h, m) w := by
        cases lo <;> cases hi <;> cases mx <;> simp only [bnd] at hl hh hm <;> (try (simp at hmx; done))
        all_goals
          (try obtain ⟨k1, e1⟩ := hl); (try obtain ⟨k2, e2⟩ := hh); (try obtain ⟨k3, e3⟩ := hm)
          (try subst hl); (try subst hh); (try subst hm)
          simp [Instr.sliceBounds, *, hf.eval, run_sliceBound]
      rw [hb]
      simp only [Result.andThen_ok, hsz]
    simp only [execOp, hf.eval hx, Sem.run_bind, run_sliceAt_slice (P := C.P) w t _ _ _ _ ht2, key, Result.andThen_ok, Sem.run_pure]
    rfl
theorem cw_none {c : Code} {N : SP} {X : Nat → SP} {R : SP} (e : TypeId) (h : CW C c fm M (⟨none, [], e⟩ :: own) N X R) : CW C c fm M own N X R :=
  fun a w hf hs => h a w hf ⟨hs.os, hs.tape, hs.output, hs.size, hs.frame, hs.imm, fun x hx b hb => (by
    rcases List.mem_cons.1 hx with rfl | hx
    · cases hb
    · exact hs.sep x hx b hb), fun x hx => (by
    rcases List.mem_cons.1 hx with rfl | hx
    · rfl
    · exact hs.cells x hx), (by simpa using hs.nodup)⟩
theorem base_cell {wE : World} {mu : List Nat} {w : World} (hs : St wE mu M own w) {b : Nat} {cs : List Value} {T : TypeId} (h : (⟨some b, cs, T⟩ : OB) ∈ own) : ∀ j v, cs[j]? = some v → w.cell? ((⟨b, 0, none⟩ : Addr).add j) = some v := by
  intro j v hv
  obtain ⟨fz, _, this⟩ := OB.ok_some (hs.cells _ h)
  simp [Addr.add_lit, World.cell?, this, hv]
theorem rd_cells {wE : World} {mu : List Nat} {w : World} (hs : St wE mu M own w) {b off n : Nat} {vs : List Value} (h : RdN M own b off n vs) : ∀ j v, vs[j]? = some v → w.cell? ((⟨b, off, none⟩ : Addr).add j) = some v := by
  intro j v hv
  have h1 := hs.cell h
  have hl := h1.length
  have hj : j < vs.length := (List.getElem?_eq_some_iff.1 hv).1
  have := h1.at j (by omega)
  rw [Addr.add_lit]
  rw [this]
  simp [List.getD, hv]
theorem setN_app : ∀ (news xs sp : List Value), news.length ≤ sp.length → SetN (xs ++ sp) xs.length news (xs ++ news ++ sp.drop news.length)
  | [], xs, sp, _ => by simpa using SetN.nil
  | v :: news, xs, [], h => by simp at h
  | v :: news, xs, u :: sp, h => by
    have ih := setN_app news (xs ++ [v]) sp (by simpa using h)
    have e : SetAt (xs ++ u :: sp) xs.length v ((xs ++ [v]) ++ sp) := by
      have := SetAt.set (l := xs ++ u :: sp) (n := xs.length) (v := v) (by simp)
      rw [List.set_append_right _ _ (Nat.le_refl _)] at this
      simpa using this
    refine .cons e ?_
    simpa using ih
/-- The run of an append to a row of ours (or to an empty one). -/
theorem run_append {wE : World} {mu : List Nat} {w : World} {p q : List OB} {ref : Option Nat} {A : Option Addr} {n cap m sz by_ : Nat} {xs sp news : List Value} {t tx e ty : TypeId} {z x2 : Value}
    (ht : tdSlice C.P t = some e) (hsz : sizeB C.P e = some sz) (hz : zeroB C.P e = some z) (hzs : z.cells.size = sz) (hby : bytesB C.P e = some by_)
    (hs : St wE mu M (p ++ ⟨ref, xs ++ sp, e⟩ :: q) w) (hxs : xs.length = n * sz) (hcap : xs.length + sp.length = cap * sz) (hnc : n ≤ cap) (hnone : ref = none → cap = 0)
    (hsrc : Src C.P sz tx x2 m news w) (hb : (n + m) * by_ ≤ 140737488355328) (h63 : n + m ≤ 9223372036854775807) :
    ∃ ref' sp' cap' w', (Builtin.append_ #[t, tx] ty #[.slice (base ref A) n cap, x2]).run C.P w = .ok (.slice (base ref' A) (n + m) cap') w' ∧
      St wE mu M (p ++ ⟨ref', xs ++ news ++ sp', e⟩ :: q) w' ∧ (xs ++ news).length + sp'.length = cap' * sz ∧ n + m ≤ cap' ∧ (ref' = none → cap' = 0) := by
  have ht' := tdSlice_eq ht
  obtain ⟨i, hi⟩ : ∃ i, C.P.info? e = some i := by
    unfold sizeB at hsz; cases h : C.P.info? e with
    | none => rw [h] at hsz; cases hsz
    | some i => exact ⟨i, rfl⟩
  have e1 : i.size = sz := by unfold sizeB at hsz; rw [hi] at hsz; injection hsz
  have e2 : i.bytes = by_ := by unfold bytesB at hby; rw [hi] at hby; injection hby
  have e3 : i.zero = some z := by unfold zeroB at hz; rw [hi] at hz; exact hz
  subst e1
  have hnl : news.length = m * i.size := hsrc.newsLen
  by_cases hroom : n + m ≤ cap
  · -- room
    by_cases hm : m = 0
    · subst hm
      have hn0 : news = [] := List.eq_nil_of_length_eq_zero (by simpa using hnl)
      subst hn0
      refine ⟨ref, sp, cap, w, ?_, by simpa using hs, by simpa using hcap, by omega, hnone⟩
      have hb : base ref A = none ∨ ∃ a, base ref A = some a := by cases base ref A <;> simp
      rcases hb with hb | ⟨a, hb⟩
      · rw [hb]
        rcases hsrc.kind with ⟨e', hk⟩ | hk <;> simp [Builtin.append_, run_underlying ht', run_underlying hk, sizeOf, typeInfo, hi, hsrc.len, hnc, hsrc.cells]
      · rw [hb]
        rcases hsrc.kind with ⟨e', hk⟩ | hk <;> simp [Builtin.append_, run_underlying ht', run_underlying hk, sizeOf, typeInfo, hi, hsrc.len, hnc, hsrc.cells, storeCells]
    · cases ref with
      | none => exact absurd (hnone rfl) (by omega)
      | some b =>
        have hfit : news.length ≤ sp.length := by
          have : (n + m) * i.size ≤ cap * i.size := Nat.mul_le_mul_right _ hroom
          rw [Nat.add_mul] at this
          omega
        have hset := setN_app news xs sp hfit
        rw [hxs] at hset
        obtain ⟨w', e4, s4⟩ := St.storeN (C := C) (off := n * i.size) (i := 0) hs (by rw [Nat.add_zero]; exact hset) hsrc.one
        refine ⟨some b, sp.drop news.length, cap, w', ?_, s4, ?_, hroom, by simp⟩
        · simp only [base]
          rcases hsrc.kind with ⟨e', hk⟩ | hk <;> simp [Builtin.append_, run_underlying ht', run_underlying hk, sizeOf, typeInfo, hi, hsrc.len, hroom, hsrc.cells, Addr.add_lit, e4]
        · have : (n + m) * i.size ≤ cap * i.size := Nat.mul_le_mul_right _ hroom
          rw [Nat.add_mul] at this
          simp [hnl]
          omega
  · -- it grows
    have hlt : cap < n + m := by omega
    have hfit := growslice_fits hlt hb
    have hold : (Builtin.firstCells i.size n (.slice (base ref A) n cap)).run C.P w.drew = .ok xs.toArray w.drew := by
      cases ref with
      | some b =>
        have hold := base_cell hs (b := b) (cs := xs ++ sp) (T := e) (by simp)
        exact run_firstCells_some w.drew i.size n ⟨b, 0, none⟩ n cap xs hxs (fun j v hv => by
          have := hold j v (by rw [List.getElem?_append_left (List.getElem?_eq_some_iff.1 hv).1]; exact hv)
          simpa using this)
      | none =>
        have hc0 := hnone rfl
        have hn0 : n = 0 := by omega
        subst hn0
        have hx0 : xs = [] := List.eq_nil_of_length_eq_zero (by simpa using hxs)
        subst hx0
        cases A with
        | none => exact run_firstCells_none w.drew i.size 0 0 cap
        | some a => exact run_firstCells_some w.drew i.size 0 a 0 cap [] (by simp) (by simp)
    have hr := run_append_grow_src (P := C.P) w t tx ty e i z ht' hi e3 (base ref A) n cap xs hold x2 m news hsrc hlt (by omega) (by rw [e2]; exact hfit)
    have hge : n + m ≤ grownCap w (n + m) cap e := grownCap_ge w (n + m) cap e
    generalize hc : grownCap w (n + m) cap e = cap' at hr hge
    refine ⟨some w.heap.size, (Builtin.zeroCells z.cells (cap' - (n + m))).toList, cap', _, hr, ?_, ?_, hge, by simp⟩
    · refine hs.replace (x := ⟨ref, xs ++ sp, e⟩) (Repl.mk p) ?_ rfl rfl rfl
      show w.heap.push _ = w.heap.push _
      congr 2
      apply Array.ext'
      simp
    · simp only [List.length_append, Array.length_toList, size_zeroCells, hzs, hxs, hnl, ← Nat.add_mul]
      congr 1; omega
/-- A slice that is appended. -/
theorem src_slice {wE : World} {mu : List Nat} {w : World} (hs : St wE mu M own w) {t e sz m c2 b2 off2 : Nat} {a2 : Option Addr} {news : List Value} (ht : tdSlice C.P t = some e)
    (ha2 : 0 < m → a2 = some ⟨b2, off2, none⟩) (hnews : RdN M own b2 off2 (m * sz) news) (h1 : ones news = true) : Src C.P sz t (.slice a2 m c2) m news w := by
  have hnl : news.length = m * sz := (hs.cell hnews).length
  by_cases hm : m = 0
  · subst hm
    have hn0 : news = [] := List.eq_nil_of_length_eq_zero (by simpa using hnl)
    subst hn0
    cases a2 with
    | none => exact Src.ofNil w (tdSlice_eq ht) c2
    | some a => exact Src.ofSlice w (tdSlice_eq ht) a 0 c2 [] (by simp) (by simp) (by simp)
  · rw [ha2 (by omega)]
    exact Src.ofSlice w (tdSlice_eq ht) ⟨b2, off2, none⟩ m c2 news hnl (rd_cells hs hnews) (ones_spec h1)
theorem s_appendG {x y : Operand} {p q : List OB} {ref : Option Nat} {A : Option Addr} {n cap m sz by_ : Nat} {xs sp news : List Value} {t tx e : TypeId} {z x2 : Value}
    (hx : ev fm x = some (.slice (base ref A) n cap)) (hy : ev fm y = some x2)
    (hp : Spl own ⟨ref, xs ++ sp, e⟩ p q)
    (ht : tdSlice C.P t = some e) (hsz : sizeB C.P e = some sz) (hz : zeroB C.P e = some z) (hzs : z.cells.size = sz) (hby : bytesB C.P e = some by_)
    (hxs : xs.length = n * sz) (hcap : xs.length + sp.length = cap * sz) (hnc : n ≤ cap) (hnone : ref = none → cap = 0)
    (hsrc : ∀ w, St C.wE C.mu M own w → Src C.P sz tx x2 m news w) (hb : (n + m) * by_ ≤ 140737488355328) (h63 : n + m ≤ 9223372036854775807)
    (k : ∀ ref' sp' cap', (xs ++ news).length + sp'.length = cap' * sz → n + m ≤ cap' → (ref' = none → cap' = 0) → K (.slice (base ref' A) (n + m) cap') M (p ++ ⟨ref', xs ++ news ++ sp', e⟩ :: q)) :
    Stp C ⟨d, .call { callee := .builtin .append, args := #[x, y], argTypes := #[t, tx] }, ty, pos, af, g⟩ fm M own K := by
  intro a w hf hs
  have hsrc := hsrc w hs
  rw [hp.eq] at hs
  obtain ⟨ref', sp', cap', w', hr, hs', h2, h3, h4⟩ := run_append (ty := ty) (A := A) ht hsz hz hzs hby hs hxs hcap hnc hnone hsrc hb h63
  have hrun : (execOp a.eval ⟨d, .call { callee := .builtin .append, args := #[x, y], argTypes := #[t, tx] }, ty, pos, af, g⟩).run C.P w = .ok (.value (.slice (base ref' A) (n + m) cap')) w' := by
    simp only [execOp, resolve, invoke, builtin, Sem.run_bind, Sem.run_pure, Result.andThen_ok, List.map_toArray, List.map_cons, List.map_nil, hf.eval hx, hf.eval hy, hr]
  unfold Okay
  rw [hrun]
  exact ⟨M, _, hs', k ref' sp' cap' h2 h3 h4⟩
theorem s_append {x y : Operand} {p q : List OB} {ref : Option Nat} {A a2 : Option Addr} {n cap m c2 b2 off2 sz by_ : Nat} {xs sp news : List Value} {t e : TypeId} {z : Value}
    (hx : ev fm x = some (.slice (base ref A) n cap)) (hy : ev fm y = some (.slice a2 m c2))
    (hp : Spl own ⟨ref, xs ++ sp, e⟩ p q)
    (ht : tdSlice C.P t = some e) (hsz : sizeB C.P e = some sz) (hz : zeroB C.P e = some z) (hzs : z.cells.size = sz) (hby : bytesB C.P e = some by_)
    (hxs : xs.length = n * sz) (hcap : xs.length + sp.length = cap * sz) (hnc : n ≤ cap) (hnone : ref = none → cap = 0)
    (ha2 : 0 < m → a2 = some ⟨b2, off2, none⟩) (hnews : RdN M own b2 off2 (m * sz) news) (h1 : ones news = true) (hb : (n + m) * by_ ≤ 140737488355328) (h63 : n + m ≤ 9223372036854775807)
    (k : ∀ ref' sp' cap', (xs ++ news).length + sp'.length = cap' * sz → n + m ≤ cap' → (ref' = none → cap' = 0) → K (.slice (base ref' A) (n + m) cap') M (p ++ ⟨ref', xs ++ news ++ sp', e⟩ :: q)) :
    Stp C ⟨d, .call { callee := .builtin .append, args := #[x, y], argTypes := #[t, t] }, ty, pos, af, g⟩ fm M own K :=
  s_appendG hx hy hp ht hsz hz hzs hby hxs hcap hnc hnone (fun _ hs => src_slice hs ht ha2 hnews h1) hb h63 k
end
end Go.Fw
set_option linter.unusedSimpArgs false
set_option linter.unusedVariables false
namespace Go.Fw
open Go Go.RowKit
inductive Keep (fm : FM) : List Nat → FM → Prop
  | nil : Keep fm [] []
  | cons {k : Nat} {v : Value} {ks : List Nat} {r : FM} : fm.get k = some v → Keep fm ks r → Keep fm (k :: ks) ((k, v) :: r)
theorem FM.sub_append {a b fm : FM} (h1 : FM.sub a fm) (h2 : FM.sub b fm) : FM.sub (a ++ b) fm := by
  induction a with
  | nil => exact h2
  | cons p a ih => exact ⟨h1.1, ih h1.2⟩
theorem Keep.sub {fm : FM} {ks : List Nat} {r : FM} (h : Keep fm ks r) : FM.sub r fm := by
  induction h with
  | nil => trivial
  | cons h1 _ ih => exact ⟨h1, ih⟩
section
variable {C : Pr} {fm : FM} {M : View} {own : List OB} {N : SP} {X : Nat → SP} {R : SP}
/-- The round's end. -/
structure Rd {σ : Type} (G : σ → FM) (res : FM) (V : σ → View) (O : σ → List OB) (I : σ → Prop) (μ : σ → Nat) (m : Nat) (fm : FM) (M : View) (own : List OB) (s : σ) : Prop where
  fr : FM.sub (G s ++ res) fm
  vw : View.le (V s) M
  ow : Pick own (O s)
  inv : I s
  lt : μ s < m
theorem cw_loopK {σ : Type} (keys : List Nat) {res : FM} (hk : Keep fm keys res) (G : σ → FM) (V : σ → View) (O : σ → List OB) (I : σ → Prop) (μ : σ → Nat) (s0 : σ) {c : Code}
    (h1 : FM.sub (G s0) fm) (h2 : View.le (V s0) M) (h3 : Pick own (O s0)) (h4 : I s0)
    (round : ∀ s, I s → CW C c (G s ++ res) (V s) (O s) (fun fm M own => ∃ s', Rd G res V O I μ (μ s) fm M own s') X R) : CW C (.loop c) fm M own N X R :=
  cw_loop (fun s => G s ++ res) V O I μ s0 ⟨FM.sub_append h1 hk.sub, h2, h3, h4⟩ fun s hs => cw_mono (round s hs) (fun _ _ _ ⟨s', h⟩ => ⟨s', ⟨h.fr, h.vw, h.ow, h.inv⟩, h.lt⟩) (fun _ _ _ _ h => h) (fun _ _ _ h => h)
end
section
variable {α : Type}
def flat (enc : α → List Value) (xs : List α) : List Value := xs.flatMap enc
theorem flat_append (enc : α → List Value) (xs ys : List α) : flat enc (xs ++ ys) = flat enc xs ++ flat enc ys := by simp [flat]
theorem flat_one (enc : α → List Value) (x : α) : flat enc [x] = enc x := by simp [flat]
theorem flat_length {enc : α → List Value} {sz : Nat} (he : ∀ x, (enc x).length = sz) (xs : List α) : (flat enc xs).length = xs.length * sz := by
  induction xs with
  | nil => simp [flat]
  | cons x xs ih => simp only [flat, List.flatMap_cons, List.length_append, he, List.length_cons] at ih ⊢; rw [ih, Nat.add_mul]; omega
theorem ones_flat {enc : α → List Value} (he : ∀ x, ones (enc x) = true) (xs : List α) : ones (flat enc xs) = true := by
  have key : ∀ l : List Value, (∀ v ∈ l, v.oneCell' = true) → ones l = true := by
    intro l
    induction l with
    | nil => intro _; rfl
    | cons v l ih => intro h; unfold ones; rw [h v (by simp)]; exact ih fun u hu => h u (by simp [hu])
  refine key _ fun v hv => ?_
  obtain ⟨x, _, hx⟩ := List.mem_flatMap.1 hv
  exact ones_spec (he x) v hx
theorem getN_list {l : List Value} {off n : Nat} {vs : List Value} (h : (l.drop off).take n = vs) (hn : off + n ≤ l.length) : GetN (l[·]?) off n vs := by
  subst h
  have hl : ((l.drop off).take n).length = n := by simp; omega
  have := GetN.of_at (f := (l[·]?)) (vs := (l.drop off).take n) (off := off) fun j hj => by
    rw [hl] at hj
    simp [List.getElem_take, List.getElem?_eq_getElem (show off + j < l.length by omega)]
  rwa [hl] at this
theorem flat_at {enc : α → List Value} {sz : Nat} (he : ∀ x, (enc x).length = sz) : ∀ (xs : List α) (sp : List Value) (i : Nat) (h : i < xs.length), ((flat enc xs ++ sp).drop (i * sz)).take sz = enc xs[i]
  | x :: xs, sp, 0, _ => by
    simp only [Nat.zero_mul, List.drop_zero, flat, List.flatMap_cons, List.append_assoc, List.getElem_cons_zero]
    rw [← he x, List.take_left]
  | x :: xs, sp, i + 1, h => by
    have ih := flat_at he xs sp i (by simpa using h)
    simp only [flat, List.flatMap_cons, List.append_assoc, List.getElem_cons_succ] at ih ⊢
    rw [← ih, Nat.add_mul, Nat.one_mul, Nat.add_comm, ← List.drop_drop]
    congr 2
    have := he x
    rw [← this, List.drop_left]
theorem getN_flat {enc : α → List Value} {sz : Nat} (he : ∀ x, (enc x).length = sz) {xs : List α} {sp : List Value} {i : Nat} (h : i < xs.length) : GetN ((flat enc xs ++ sp)[·]?) (0 + i * sz) sz (enc xs[i]) := by
  refine getN_list (by rw [Nat.zero_add]; exact flat_at he xs sp i h) ?_
  have := flat_length he xs
  have h2 : (i + 1) * sz ≤ xs.length * sz := Nat.mul_le_mul_right _ h
  rw [Nat.add_mul] at h2
  simp; omega
/-- What we own, read as a slice. -/
theorem SlA.own {enc : α → List Value} {sz : Nat} (he : ∀ x, (enc x).length = sz) {w : World} {r : Option Nat} {A : Option Addr} {xs : List α} {sp : List Value} {T : TypeId} (hok : OB.ok ⟨r, flat enc xs ++ sp, T⟩ w) (hn : r = none → xs = []) :
    SlA (View.of w) enc sz (base r A) xs (r.getD 0) 0 := by
  cases r with
  | none =>
    have := hn rfl
    subst this
    exact ⟨fun h => by simp at h, fun i h => by simp at h⟩
  | some b =>
    refine ⟨fun _ => rfl, fun i h => ?_⟩
    obtain ⟨fz, _, hok⟩ := OB.ok_some hok
    refine (getN_flat he (sp := sp) h).mono fun j v hv => ?_
    simp only [View.cell, View.of, Option.getD_some, hok]
    simpa using hv
def enc1 (v : Int) : List Value := [.int .i64 v]
/-- A row of ours: n elements of sz cells, so many places. -/
structure SO (r : Option Nat) (n cap : Nat) (xs sp : List Value) (sz : Nat) : Prop where
  hlen : xs.length = n * sz
  hcap : xs.length + sp.length = cap * sz
  hle : n ≤ cap
  hnone : r = none → cap = 0
theorem SO.empty {r : Option Nat} {n cap sz : Nat} {xs sp : List Value} (h : SO r n cap xs sp sz) (hr : r = none) : n = 0 := by have := h.hnone hr; have := h.hle; omega
theorem SO.nil (sz : Nat) : SO none 0 0 [] [] sz := ⟨by simp, by simp, Nat.le_refl _, fun _ => rfl⟩
end
end Go.Fw
set_option linter.unusedSimpArgs false
set_option linter.unusedVariables false
namespace Go.Fw
open Go Go.RowKit
/-- The parts of a literal, laid one after the other. -/
inductive Fil (place : Nat → Option (Nat × Nat)) : List Value → List (Nat × Value) → List Value → Prop
  | nil {cs : List Value} : Fil place cs [] cs
  | one {i off : Nat} {v : Value} {r : List (Nat × Value)} {cs cs' cs'' : List Value} : place i = some (off, 1) → v.oneCell' = true → SetAt cs off v cs' → Fil place cs' r cs'' → Fil place cs ((i, v) :: r) cs''
  | agg {i off n : Nat} {vs : List Value} {r : List (Nat × Value)} {cs cs' cs'' : List Value} : place i = some (off, n) → vs.length = n → SetN cs off vs cs' → off + n ≤ cs.length → Fil place cs' r cs'' → Fil place cs ((i, .agg vs.toArray) :: r) cs''
theorem foldl_setN {off : Nat} {vs : List Value} : ∀ {l l' : List Value} {j : Nat}, SetN l (off + j) vs l' → ((vs.zipIdx j).foldl (fun cs (p : Value × Nat) => cs.setIfInBounds (off + p.2) p.1) l.toArray) = l'.toArray := by
  induction vs with
  | nil => intro l l' j h; cases h; rfl
  | cons v vs ih =>
    intro l l' j h
    cases h with
    | cons h1 h2 =>
      simp only [List.zipIdx_cons, List.foldl_cons]
      have e := h1.spec.2
      rw [show l.toArray.setIfInBounds (off + j) v = (l.set (off + j) v).toArray by simp, ← e]
      exact ih (by rwa [Nat.add_assoc] at h2)
theorem Fil.run {place : Nat → Option (Nat × Nat)} {cs cs' : List Value} {ps : List (Nat × Value)} (h : Fil place cs ps cs') : Instr.fill place cs.toArray ps = some cs'.toArray := by
  induction h with
  | nil => rfl
  | one h1 h2 h3 _ ih =>
    rename_i i off v r cs cs' cs'' h4
    have hv : v.cells = #[v] := by cases v <;> first | rfl | (simp [Value.oneCell'] at h2)
    have e := h3.spec
    simp only [Instr.fill, h1, hv]
    have hn : ¬ (((#[v] : Array Value).size ≠ 1 || decide (off + (#[v] : Array Value).size > cs.toArray.size)) = true) := by
      simp; omega
    rw [if_neg hn]
    have : (Array.foldl (fun cs (x : Value × Nat) => cs.setIfInBounds (off + x.2) x.1) cs.toArray (#[v] : Array Value).zipIdx) = cs'.toArray := by
      simp [Array.zipIdx, e.2]
    rw [this]
    exact ih
  | agg h1 h2 h3 h5 _ ih =>
    rename_i i off n vs r cs cs' cs'' h4
    have hv : (Value.agg vs.toArray).cells = vs.toArray := rfl
    simp only [Instr.fill, h1]
    rw [hv]
    have hn : ¬ ((vs.toArray.size ≠ n || decide (off + vs.toArray.size > cs.toArray.size)) = true) := by
      simp; omega
    rw [if_neg hn]
    have := foldl_setN (j := 0) (off := off) (by simpa using h3)
    have : (Array.foldl (fun cs (x : Value × Nat) => cs.setIfInBounds (off + x.2) x.1) cs.toArray vs.toArray.zipIdx) = cs'.toArray := by
      rw [← this]; simp
    rw [this]
    exact ih
def placesB (P : Program) : List Field → Option (List (Nat × Nat))
  | [] => some []
  | f :: r => match sizeB P f.type, placesB P r with
    | some n, some ps => some ((f.offset, n) :: ps)
    | _, _ => none
def fieldsB (P : Program) (t : TypeId) : Option (List (Nat × Nat)) := match P.underlying t with
  | some (.struct fs) => placesB P fs.toList
  | _ => none
theorem run_places {P : Program} : ∀ {l : List Field} {ps : List (Nat × Nat)} (w : World), placesB P l = some ps → (l.mapM (m := Sem) fun f => do pure (f.offset, ← sizeOf f.type)).run P w = .ok ps w
  | [], ps, w, h => by simp [placesB] at h; subst h; simp
  | f :: r, ps, w, h => by
    unfold placesB at h
    split at h
    · rename_i n ps' h1 h2
      injection h with h
      subst h
      have ih := run_places w h2
      simp only [List.mapM_cons, Sem.run_bind, run_sizeOf h1, Result.andThen_ok, Sem.run_pure, ih]
    · cases h
section
variable {C : Pr} {fm : FM} {M : View} {own : List OB} {K : Value → View → List OB → Prop} {d : Option Nat} {ty : TypeId} {pos : String} {af : Array Edge} {g : Option (Nat × Bool)}
theorem s_buildS {t : TypeId} {ps : List (Nat × Operand)} {vs : List (Nat × Value)} {pl : List (Nat × Nat)} {zs cs : List Value} (hp : evP fm ps = some vs) (hu : fieldsB C.P t = some pl) (hz : zeroB C.P t = some (.agg zs.toArray)) (hf : Fil (pl[·]?) zs vs cs) :
    Pur C ⟨d, .build t ps.toArray, ty, pos, af, g⟩ fm M own (.agg cs.toArray) := by
  intro a w hfr _
  have hps := evP_eq hfr hp
  unfold fieldsB at hu
  split at hu
  · rename_i fs e
    have hm : (fs.mapM (m := Sem) fun f => do pure (f.offset, ← sizeOf f.type)).run C.P w = .ok pl.toArray w := by
      have : fs = fs.toList.toArray := by simp
      rw [this, List.mapM_toArray]
      simp only [Sem.run_map, run_places w hu, Result.andThen_ok]
    simp only [execOp, Sem.run_bind, List.map_toArray, hps, Instr.build, run_zeroValue hz, Result.andThen_ok, run_underlying e, hm, Value.cells]
    have := hf.run
    simp only [List.getElem?_toArray, this]
    simp
  · cases hu
theorem range_cells (z : List Value) (n : Nat) : (List.range (n * z.length)).map (fun i => z.toArray[i % z.toArray.size]!) = (List.replicate n z).flatten := by
  induction n with
  | zero => simp
  | succ n ih =>
    rw [Nat.add_mul, Nat.one_mul, List.range_add, List.map_append, ih, List.replicate_succ', List.flatten_append]
    congr 1
    simp only [List.map_map, List.flatten_cons, List.flatten_nil, List.append_nil]
    apply List.ext_getElem
    · simp
    · intro i h1 h2
      simp only [List.getElem_map, List.getElem_range, Function.comp, List.size_toArray]
      have : (n * z.length + i) % z.length = i := by
        rw [Nat.add_comm, Nat.mul_comm, Nat.add_mul_mod_self_left]; exact Nat.mod_eq_of_lt h2
      rw [this]
      simp [h2]
theorem s_buildSl {t e n sz : Nat} {ps : List (Nat × Operand)} {vs : List (Nat × Value)} {z : Value} {zs z0 cs : List Value} (hp : evP fm ps = some vs) (hu : tdSlice C.P t = some e) (hs : sizeB C.P e = some sz) (hz : zeroB C.P e = some z) (hzc : LEq z.cells.toList zs) (hlen : zs.length = sz) (h0 : Nat.blt 0 sz = true) (hn : n * sz ≤ 16777216)
    (hr : LEq ((List.replicate n zs).flatten) z0) (hf : Fil (fun i => some (i * sz, sz)) z0 vs cs) (k : ∀ b, K (.slice (some ⟨b, 0, none⟩) n n) M (⟨some b, cs, e⟩ :: own)) :
    Stp C ⟨d, .buildSlice t n ps.toArray, ty, pos, af, g⟩ fm M own K :=
  stp_new (v := fun b => .slice (some ⟨b, 0, none⟩) n n) (fun a w hfr _ => by
    have hps := evP_eq hfr hp
    have h0' : 0 < sz := by simp [Nat.blt] at h0; omega
    have ez := hzc.eq
    have er := hr.eq
    have hcs : z.cells = zs.toArray := by rw [← ez]
    have hrc : (Array.range (n * sz)).map (fun i => z.cells[i % z.cells.size]!) = z0.toArray := by
      apply Array.ext'
      rw [Array.toList_map, Array.toList_range, ← er, hcs, ← hlen, range_cells zs]
    have hne : ¬ (n * sz > 2 ^ 24) := by omega
    have hstep : (Instr.buildSlice t n vs.toArray).run C.P w = .ok (.slice (some ⟨w.heap.size, 0, none⟩) n n) { w with heap := w.heap.push (.cells cs.toArray e) } := by
      by_cases hz0 : n * sz = 0
      · have hnil : z0 = [] := by
          have : z0.length = 0 := by rw [← er]; simp [hlen]; rcases Nat.mul_eq_zero.1 hz0 with h | h <;> omega
          exact List.eq_nil_of_length_eq_zero this
        subst hnil
        have hfr := hf.run
        simp only [Instr.buildSlice, Sem.run_bind, run_underlying (tdSlice_eq hu), Result.andThen_ok, run_sizeOf hs, hne, if_false, hz0, if_true, Sem.run_pure]
        simp only [Array.range, List.range_zero]
        simp [hfr, newRow, -World.alloc_eq]
      · simp only [Instr.buildSlice, Sem.run_bind, run_underlying (tdSlice_eq hu), Result.andThen_ok, run_sizeOf hs, hne, if_false, hz0, Sem.run_pure, run_zeroValue hz, hrc]
        simp [hf.run, newRow, -World.alloc_eq]
    simp only [execOp, Sem.run_bind, List.map_toArray, hps, hstep, Result.andThen_ok]
    rfl) k
end
end Go.Fw
