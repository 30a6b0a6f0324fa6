/-
  Texts joined: Fw35 Fw36 Fw37.
-/
import Derived.Test.YtkkfgeekdaalmaaDoorYgq
import Derived.Deep.DeepAppendWide
set_option linter.unusedSimpArgs false
set_option linter.unusedVariables false
namespace Go.Fw
open Go Go.RowKit
section
variable {C : Pr} {fm : FM} {M : View} {own : List OB} {K : Value → View → List OB → Prop} {d : Option Nat} {ty : TypeId} {pos : String} {af : Array Edge} {g : Option (Nat × Bool)}
theorem run_append_w {wE : World} {mu : List Nat} {w : World} {p q : List OB} {ref : Option Nat} {A : Option Addr} {n cap m sz by_ : Nat} {xs sp news : List Value} {t tx e ty : TypeId} {z x2 : Value}
    (ht : tdSlice C.P t = some e) (hsz : sizeB C.P e = some sz) (hz : zeroB C.P e = some z) (hzs : z.cells.size = sz) (hby : bytesB C.P e = some by_)
    (hs : St wE mu M (p ++ ⟨ref, xs ++ sp, e⟩ :: q) w) (hxs : xs.length = n * sz) (hcap : xs.length + sp.length = cap * sz) (hnc : n ≤ cap) (hnone : ref = none → cap = 0)
    (hsrc : Src C.P sz tx x2 m news w) (hb : ((n + m) + (n + m) / 4 + 192) * by_ ≤ 281474976710656) (h63 : n + m ≤ 9223372036854775807) :
    ∃ ref' sp' cap' w', (Builtin.append_ #[t, tx] ty #[.slice (base ref A) n cap, x2]).run C.P w = .ok (.slice (base ref' A) (n + m) cap') w' ∧
      St wE mu M (p ++ ⟨ref', xs ++ news ++ sp', e⟩ :: q) w' ∧ (xs ++ news).length + sp'.length = cap' * sz ∧ n + m ≤ cap' ∧ (ref' = none → cap' = 0) := by
  have ht' := tdSlice_eq ht
  obtain ⟨i, hi⟩ : ∃ i, C.P.info? e = some i := by
    unfold sizeB at hsz; cases h : C.P.info? e with
    | none => rw [h] at hsz; cases hsz
    | some i => exact ⟨i, rfl⟩
  have e1 : i.size = sz := by unfold sizeB at hsz; rw [hi] at hsz; injection hsz
  have e2 : i.bytes = by_ := by unfold bytesB at hby; rw [hi] at hby; injection hby
  have e3 : i.zero = some z := by unfold zeroB at hz; rw [hi] at hz; exact hz
  subst e1
  have hnl : news.length = m * i.size := hsrc.newsLen
  by_cases hroom : n + m ≤ cap
  · -- room
    by_cases hm : m = 0
    · subst hm
      have hn0 : news = [] := List.eq_nil_of_length_eq_zero (by simpa using hnl)
      subst hn0
      refine ⟨ref, sp, cap, w, ?_, by simpa using hs, by simpa using hcap, by omega, hnone⟩
      have hb : base ref A = none ∨ ∃ a, base ref A = some a := by cases base ref A <;> simp
      rcases hb with hb | ⟨a, hb⟩
      · rw [hb]
        rcases hsrc.kind with ⟨e', hk⟩ | hk <;> simp [Builtin.append_, run_underlying ht', run_underlying hk, sizeOf, typeInfo, hi, hsrc.len, hnc, hsrc.cells]
      · rw [hb]
        rcases hsrc.kind with ⟨e', hk⟩ | hk <;> simp [Builtin.append_, run_underlying ht', run_underlying hk, sizeOf, typeInfo, hi, hsrc.len, hnc, hsrc.cells, storeCells]
    · cases ref with
      | none => exact absurd (hnone rfl) (by omega)
      | some b =>
        have hfit : news.length ≤ sp.length := by
          have : (n + m) * i.size ≤ cap * i.size := Nat.mul_le_mul_right _ hroom
          rw [Nat.add_mul] at this
          omega
        have hset := setN_app news xs sp hfit
        rw [hxs] at hset
        obtain ⟨w', e4, s4⟩ := St.storeN (C := C) (off := n * i.size) (i := 0) hs (by rw [Nat.add_zero]; exact hset) hsrc.one
        refine ⟨some b, sp.drop news.length, cap, w', ?_, s4, ?_, hroom, by simp⟩
        · simp only [base]
          rcases hsrc.kind with ⟨e', hk⟩ | hk <;> simp [Builtin.append_, run_underlying ht', run_underlying hk, sizeOf, typeInfo, hi, hsrc.len, hroom, hsrc.cells, Addr.add_lit, e4]
        · have : (n + m) * i.size ≤ cap * i.size := Nat.mul_le_mul_right _ hroom
          rw [Nat.add_mul] at this
          simp [hnl]
          omega
  · -- it grows
    have hlt : cap < n + m := by omega
    have hfit := growslice_fits_wide hlt hb
    have hold : (Builtin.firstCells i.size n (.slice (base ref A) n cap)).run C.P w.drew = .ok xs.toArray w.drew := by
      cases ref with
      | some b =>
        have hold := base_cell hs (b := b) (cs := xs ++ sp) (T := e) (by simp)
        exact run_firstCells_some w.drew i.size n ⟨b, 0, none⟩ n cap xs hxs (fun j v hv => by
          have := hold j v (by rw [List.getElem?_append_left (List.getElem?_eq_some_iff.1 hv).1]; exact hv)
          simpa using this)
      | none =>
        have hc0 := hnone rfl
        have hn0 : n = 0 := by omega
        subst hn0
        have hx0 : xs = [] := List.eq_nil_of_length_eq_zero (by simpa using hxs)
        subst hx0
        cases A with
        | none => exact run_firstCells_none w.drew i.size 0 0 cap
        | some a => exact run_firstCells_some w.drew i.size 0 a 0 cap [] (by simp) (by simp)
    have hr := run_append_grow_src (P := C.P) w t tx ty e i z ht' hi e3 (base ref A) n cap xs hold x2 m news hsrc hlt (by omega) (by rw [e2]; exact hfit)
    have hge : n + m ≤ grownCap w (n + m) cap e := grownCap_ge w (n + m) cap e
    generalize hc : grownCap w (n + m) cap e = cap' at hr hge
    refine ⟨some w.heap.size, (Builtin.zeroCells z.cells (cap' - (n + m))).toList, cap', _, hr, ?_, ?_, hge, by simp⟩
    · refine hs.replace (x := ⟨ref, xs ++ sp, e⟩) (Repl.mk p) ?_ rfl rfl rfl
      show w.heap.push _ = w.heap.push _
      congr 2
      apply Array.ext'
      simp
    · simp only [List.length_append, Array.length_toList, size_zeroCells, hzs, hxs, hnl, ← Nat.add_mul]
      congr 1; omega
theorem s_appendG_w {x y : Operand} {p q : List OB} {ref : Option Nat} {A : Option Addr} {n cap m sz by_ : Nat} {xs sp news : List Value} {t tx e : TypeId} {z x2 : Value}
    (hx : ev fm x = some (.slice (base ref A) n cap)) (hy : ev fm y = some x2)
    (hp : Spl own ⟨ref, xs ++ sp, e⟩ p q)
    (ht : tdSlice C.P t = some e) (hsz : sizeB C.P e = some sz) (hz : zeroB C.P e = some z) (hzs : z.cells.size = sz) (hby : bytesB C.P e = some by_)
    (hxs : xs.length = n * sz) (hcap : xs.length + sp.length = cap * sz) (hnc : n ≤ cap) (hnone : ref = none → cap = 0)
    (hsrc : ∀ w, St C.wE C.mu M own w → Src C.P sz tx x2 m news w) (hb : ((n + m) + (n + m) / 4 + 192) * by_ ≤ 281474976710656) (h63 : n + m ≤ 9223372036854775807)
    (k : ∀ ref' sp' cap', (xs ++ news).length + sp'.length = cap' * sz → n + m ≤ cap' → (ref' = none → cap' = 0) → K (.slice (base ref' A) (n + m) cap') M (p ++ ⟨ref', xs ++ news ++ sp', e⟩ :: q)) :
    Stp C ⟨d, .call { callee := .builtin .append, args := #[x, y], argTypes := #[t, tx] }, ty, pos, af, g⟩ fm M own K := by
  intro a w hf hs
  have hsrc := hsrc w hs
  rw [hp.eq] at hs
  obtain ⟨ref', sp', cap', w', hr, hs', h2, h3, h4⟩ := run_append_w (ty := ty) (A := A) ht hsz hz hzs hby hs hxs hcap hnc hnone hsrc hb h63
  have hrun : (execOp a.eval ⟨d, .call { callee := .builtin .append, args := #[x, y], argTypes := #[t, tx] }, ty, pos, af, g⟩).run C.P w = .ok (.value (.slice (base ref' A) (n + m) cap')) w' := by
    simp only [execOp, resolve, invoke, builtin, Sem.run_bind, Sem.run_pure, Result.andThen_ok, List.map_toArray, List.map_cons, List.map_nil, hf.eval hx, hf.eval hy, hr]
  unfold Okay
  rw [hrun]
  exact ⟨M, _, hs', k ref' sp' cap' h2 h3 h4⟩
theorem s_append_w {x y : Operand} {p q : List OB} {ref : Option Nat} {A a2 : Option Addr} {n cap m c2 b2 off2 sz by_ : Nat} {xs sp news : List Value} {t e : TypeId} {z : Value}
    (hx : ev fm x = some (.slice (base ref A) n cap)) (hy : ev fm y = some (.slice a2 m c2))
    (hp : Spl own ⟨ref, xs ++ sp, e⟩ p q)
    (ht : tdSlice C.P t = some e) (hsz : sizeB C.P e = some sz) (hz : zeroB C.P e = some z) (hzs : z.cells.size = sz) (hby : bytesB C.P e = some by_)
    (hxs : xs.length = n * sz) (hcap : xs.length + sp.length = cap * sz) (hnc : n ≤ cap) (hnone : ref = none → cap = 0)
    (ha2 : 0 < m → a2 = some ⟨b2, off2, none⟩) (hnews : RdN M own b2 off2 (m * sz) news) (h1 : ones news = true) (hb : ((n + m) + (n + m) / 4 + 192) * by_ ≤ 281474976710656) (h63 : n + m ≤ 9223372036854775807)
    (k : ∀ ref' sp' cap', (xs ++ news).length + sp'.length = cap' * sz → n + m ≤ cap' → (ref' = none → cap' = 0) → K (.slice (base ref' A) (n + m) cap') M (p ++ ⟨ref', xs ++ news ++ sp', e⟩ :: q)) :
    Stp C ⟨d, .call { callee := .builtin .append, args := #[x, y], argTypes := #[t, t] }, ty, pos, af, g⟩ fm M own K :=
  s_appendG_w hx hy hp ht hsz hz hzs hby hxs hcap hnc hnone (fun _ hs => src_slice hs ht ha2 hnews h1) hb h63 k
theorem s_append_rw {x y : Operand} {p q : List OB} {ref : Option Nat} {A a2 : Option Addr} {n cap m c2 b2 off2 sz by_ : Nat} {cs xs sp news : List Value} {t e : TypeId} {z : Value}
    (hx : ev fm x = some (.slice (base ref A) n cap)) (hy : ev fm y = some (.slice a2 m c2)) (hp : Spl own ⟨ref, cs, e⟩ p q) (hcs : cs = xs ++ sp)
    (ht : tdSlice C.P t = some e) (hsz : sizeB C.P e = some sz) (hz : zeroB C.P e = some z) (hzs : z.cells.size = sz) (hby : bytesB C.P e = some by_)
    (so : SO ref n cap xs sp sz) (ha2 : 0 < m → a2 = some ⟨b2, off2, none⟩) (hnews : RdN M own b2 off2 (m * sz) news) (h1 : ones news = true) (hb : ((n + m) + (n + m) / 4 + 192) * by_ ≤ 281474976710656) (h63 : n + m ≤ 9223372036854775807)
    (k : ∀ ref' sp' cap', SO ref' (n + m) cap' (xs ++ news) sp' sz → K (.slice (base ref' A) (n + m) cap') M (p ++ ⟨ref', xs ++ news ++ sp', e⟩ :: q)) :
    Stp C ⟨d, .call { callee := .builtin .append, args := #[x, y], argTypes := #[t, t] }, ty, pos, af, g⟩ fm M own K := by
  subst hcs
  intro a w hf hs
  have hnl : news.length = m * sz := (hs.cell hnews).length
  exact s_append_w hx hy hp ht hsz hz hzs hby so.hlen so.hcap so.hle so.hnone ha2 hnews h1 hb h63 (fun ref' sp' cap' h2 h3 h4 => k ref' sp' cap' ⟨by rw [List.length_append, so.hlen, hnl, Nat.add_mul], h2, h3, h4⟩) a w hf hs
end
end Go.Fw
set_option linter.unusedSimpArgs false
set_option linter.unusedVariables false
namespace Go.Fw
open Go Go.ChangeShapes Go.WideShapes Go.ChangeAt Go.RowKit Go.Deep
section
variable {H : Type} {enc : TypeId × Value → H} {P : Program}
/-- No row in the datum is greater than what may be reached. -/
def light (P : Program) (t : TypeId) (d : DataW H) : Prop := ∀ n ∈ d.weights P t, n ≤ reachBytes
theorem mem_weightsAll {e : TypeId} {n : Nat} {d : DataW H} : ∀ {ds : List (DataW H)}, d ∈ ds → n ∈ d.weights P e → n ∈ DataW.weightsAll P e ds
  | d' :: r, h, hn => by
    unfold DataW.weightsAll
    rw [List.mem_append]
    rcases List.mem_cons.1 h with rfl | h
    · exact .inl hn
    · exact .inr (mem_weightsAll h hn)
theorem light_elem {t e : TypeId} {elems spare : List (DataW H)} {d : DataW H} (ht : P.underlying t = some (.slice e)) (h : light P t (.slice elems spare)) (hd : d ∈ elems) : light P e d := fun n hn => by
  refine h n ?_
  rw [DataW.weights, ht]
  exact List.mem_cons_of_mem _ (List.mem_append_left _ (mem_weightsAll hd hn))
theorem light_len {t e : TypeId} {elems spare : List (DataW H)} (ht : P.underlying t = some (.slice e)) (h : light P t (.slice elems spare)) : elems.length * P.bytesOf e ≤ reachBytes := by
  have := h ((elems.length + spare.length) * P.bytesOf e) (by rw [DataW.weights, ht]; exact List.mem_cons_self ..)
  rw [Nat.add_mul] at this
  omega
theorem light_field {t : TypeId} {fs : Array Field} {parts : List (DataW H)} {j : Nat} {f : Field} {d : DataW H} (ht : P.underlying t = some (.struct fs)) (h : light P t (.agg parts)) (hf : fs[j]? = some f) (hd : parts[j]? = some d) : light P f.type d := fun n hn => by
  refine h n ?_
  rw [DataW.weights, ht]
  refine DataW.weights_mem_each (j := j) (t := f.type) ?_ hd n hn
  rw [List.getElem?_map, Array.getElem?_toList, hf]
  rfl
theorem light_arg {ts : List TypeId} {ds : List (DataW H)} {j : Nat} {t : TypeId} {d : DataW H} (hz : (DataW.weightsEach P ts ds).all (· ≤ reachBytes) = true) (ht : ts[j]? = some t) (hd : ds[j]? = some d) : light P t d := fun n hn => by
  have := List.all_eq_true.1 hz _ (DataW.weights_mem_each ht hd n hn)
  simpa using this
/-- A row of structs, or of whatever is laid in so many cells: opened. -/
theorem open_cell_row_w {W : World} {α : Type} {encl : α → List Value} {Q : α → Prop} {sz : Nat} {t e : TypeId} {sp : Nat → Bool} {v : Value} {x : DataW H × List MemPlace} {fuel : Nat}
    (ht : P.underlying t = some (.slice e)) (hC : P.cellsOf e = sz) (hz : 0 < sz)
    (hel : ∀ n cs y, DataW.trod enc P W 0 sp true n e cs = some y → light P e y.1 → ∃ u : α, Q u ∧ cs = encl u)
    (hf : DataW.trod enc P W 0 sp true fuel t [v] = some x) (hw : light P t x.1) :
    ∃ (a : Option Addr) (l : List α) (b o c : Nat), v = .slice a l.length c ∧ SlA (View.of W) encl sz a l b o ∧ (∀ i (h : i < l.length), Q l[i]) ∧ l.length ≤ c ∧ l.length * P.bytesOf e ≤ reachBytes := by
  rcases open_slice ht hf with ⟨hcs, hx⟩ | ⟨a, len', cap', m, n, D, Pl, hcs, hb, hlc, hcm, hm, hx, hcell⟩
  · obtain rfl : v = .slice none 0 0 := by simpa using hcs
    exact ⟨none, [], 0, 0, 0, rfl, ⟨fun h => by simp at h, fun i h => by simp at h⟩, fun i h => by simp at h, Nat.le_refl _, by simp⟩
  · obtain rfl : v = .slice (some a) len' cap' := by simpa using hcs
    have hlm : len' ≤ m := by rw [hm]; split <;> omega
    have each : ∀ i, i < len' → ∃ u : α, Q u ∧ (encl u).length = sz ∧ ∀ j, j < sz → W.cell? (a.add (i * sz + j)) = (encl u)[j]? := by
      intro i hi
      obtain ⟨cs', h1, h2⟩ := hcell i (by omega)
      obtain ⟨u, hu, rfl⟩ := hel _ _ _ h2 (by
        subst hx
        exact light_elem ht hw (List.mem_map.2 ⟨i, List.mem_range.2 hi, rfl⟩))
      rw [hC] at h1
      obtain ⟨_, hcl, hat⟩ := World.cells?_some h1
      exact ⟨u, hu, hcl, fun j hj => by rw [← hat j hj, Go.Deep.add_add]⟩
    obtain ⟨l, hl, hr⟩ := listOf len' each
    subst hl
    refine ⟨some a, l, a.block, a.off, cap', rfl, ⟨fun h0 => ?_, fun i hi => ?_⟩, fun i hi => (hr i hi).1, hlc, ?_⟩
    · obtain ⟨_, h1, h2⟩ := hr 0 h0
      have h3 := h2 0 hz
      simp only [Nat.zero_mul, Nat.add_zero] at h3
      have h4 : a.spot = none := by
        unfold World.cell? Addr.add at h3
        simp only [if_true] at h3
        rw [List.getElem?_eq_getElem (by omega)] at h3
        cases hs : a.spot with
        | none => rfl
        | some x =>
          rw [hs] at h3
          split at h3 <;> simp at h3
      obtain ⟨b, o, s⟩ := a
      simp only at h4
      subst h4
      rfl
    · obtain ⟨_, h1, h2⟩ := hr i hi
      have := GetN.of_at (f := (View.of W).cell a.block) (vs := encl l[i]) (off := a.off + i * sz) (fun j hj => by
        have h3 := h2 j (by omega)
        rw [List.getElem?_eq_getElem hj] at h3
        unfold World.cell? at h3
        unfold View.cell View.of
        have e1 : (a.add (i * sz + j)).block = a.block := by unfold Addr.add; split <;> rfl
        have e2 : (a.add (i * sz + j)).off = a.off + i * sz + j := by unfold Addr.add; split <;> first | omega | (dsimp only; omega)
        rw [e1, e2] at h3
        split at h3
        · rename_i heq
          rw [heq]
          split at h3
          · cases h3
          · exact h3
        · cases h3)
      rwa [h1] at this
    · subst hx
      have := light_len ht hw
      simpa using this
/-- A struct of one-cell fields: each cell with its own reading and its weight. -/
theorem open_fields_w {W : World} {sp : Nat → Bool} {t : TypeId} {fs : Array Field} {fuel : Nat} {cs : List Value} {x : DataW H × List MemPlace} (ht : P.underlying t = some (.struct fs))
    (hone : oneCellFields P fs = true) (hC : P.cellsOf t = fs.size) (h : DataW.trod enc P W 0 sp true fuel t cs = some x) (hw : light P t x.1) :
    cs.length = fs.size ∧ ∀ (j : Nat) (f : Field), fs[j]? = some f → ∃ (v : Value) (y : DataW H × List MemPlace) (n : Nat), cs[j]? = some v ∧ DataW.trod enc P W 0 sp true n f.type [v] = some y ∧ light P f.type y.1 := by
  obtain ⟨ys, n', hn', hy, hlen, hyl, hf⟩ := DataW.trod_struct ht h
  rw [hC] at hlen
  refine ⟨hlen, fun j f hj => ?_⟩
  obtain ⟨ho, hk⟩ := hone_of hone j f hj
  have hjl : j < fs.size := (Array.getElem?_eq_some_iff.1 hj).1
  have h1 := hf j f hj
  rw [ho, hk] at h1
  have hone' : (cs.drop j).take 1 = [cs[j]'(by omega)] := by
    rw [List.drop_eq_getElem_cons (by omega)]
    rfl
  rw [hone', List.getElem?_eq_getElem (by omega)] at h1
  refine ⟨_, _, _, List.getElem?_eq_getElem (by omega), h1, ?_⟩
  subst hy
  exact light_field ht hw hj (by rw [List.getElem?_map, List.getElem?_eq_getElem (by omega)]; rfl)
end
end Go.Fw
set_option linter.unusedSimpArgs false
set_option linter.unusedVariables false
namespace Go.Fw
open Go Go.ChangeShapes Go.WideShapes Go.ChangeAt Go.RowKit Go.Deep
section
variable {H : Type} {enc : TypeId × Value → H} {P : Program}
/-- A row of structs, or of whatever is laid in so many cells: opened, with its data. -/
theorem open_cell_row_d {W : World} {α : Type} {encl : α → List Value} {Q : α → DataW H → Prop} {sz : Nat} {t e : TypeId} {sp : Nat → Bool} {v : Value} {x : DataW H × List MemPlace} {fuel : Nat}
    (ht : P.underlying t = some (.slice e)) (hC : P.cellsOf e = sz) (hz : 0 < sz)
    (hel : ∀ n cs y, DataW.trod enc P W 0 sp true n e cs = some y → light P e y.1 → ∃ u : α, Q u y.1 ∧ cs = encl u)
    (hf : DataW.trod enc P W 0 sp true fuel t [v] = some x) (hw : light P t x.1) :
    ∃ (a : Option Addr) (l : List α) (b o c : Nat) (D : Nat → DataW H), v = .slice a l.length c ∧ SlA (View.of W) encl sz a l b o ∧ (∀ i (h : i < l.length), Q l[i] (D i)) ∧ l.length ≤ c ∧ l.length * P.bytesOf e ≤ reachBytes ∧ ((∃ spare, x.1 = .slice ((List.range l.length).map D) spare) ∨ (l.length = 0 ∧ x.1 = .nil)) := by
  rcases open_slice ht hf with ⟨hcs, hx⟩ | ⟨a, len', cap', m, n, D, Pl, hcs, hb, hlc, hcm, hm, hx, hcell⟩
  · obtain rfl : v = .slice none 0 0 := by simpa using hcs
    subst hx
    exact ⟨none, [], 0, 0, 0, fun _ => .nil, rfl, ⟨fun h => by simp at h, fun i h => by simp at h⟩, fun i h => by simp at h, Nat.le_refl _, by simp, .inr ⟨rfl, rfl⟩⟩
  · obtain rfl : v = .slice (some a) len' cap' := by simpa using hcs
    have hlm : len' ≤ m := by rw [hm]; split <;> omega
    have each : ∀ i, i < len' → ∃ u : α, Q u (D i) ∧ (encl u).length = sz ∧ ∀ j, j < sz → W.cell? (a.add (i * sz + j)) = (encl u)[j]? := by
      intro i hi
      obtain ⟨cs', h1, h2⟩ := hcell i (by omega)
      obtain ⟨u, hu, rfl⟩ := hel _ _ _ h2 (by
        subst hx
        exact light_elem ht hw (List.mem_map.2 ⟨i, List.mem_range.2 hi, rfl⟩))
      rw [hC] at h1
      obtain ⟨_, hcl, hat⟩ := World.cells?_some h1
      exact ⟨u, hu, hcl, fun j hj => by rw [← hat j hj, Go.Deep.add_add]⟩
    obtain ⟨l, hl, hr⟩ := listOf len' each
    subst hl
    refine ⟨some a, l, a.block, a.off, cap', D, rfl, ⟨fun h0 => ?_, fun i hi => ?_⟩, fun i hi => (hr i hi).1, hlc, ?_, .inl ⟨_, by rw [hx]⟩⟩
    · obtain ⟨_, h1, h2⟩ := hr 0 h0
      have h3 := h2 0 hz
      simp only [Nat.zero_mul, Nat.add_zero] at h3
      have h4 : a.spot = none := by
        unfold World.cell? Addr.add at h3
        simp only [if_true] at h3
        rw [List.getElem?_eq_getElem (by omega)] at h3
        cases hs : a.spot with
        | none => rfl
        | some x =>
          rw [hs] at h3
          split at h3 <;> simp at h3
      obtain ⟨b, o, s⟩ := a
      simp only at h4
      subst h4
      rfl
    · obtain ⟨_, h1, h2⟩ := hr i hi
      have := GetN.of_at (f := (View.of W).cell a.block) (vs := encl l[i]) (off := a.off + i * sz) (fun j hj => by
        have h3 := h2 j (by omega)
        rw [List.getElem?_eq_getElem hj] at h3
        unfold World.cell? at h3
        unfold View.cell View.of
        have e1 : (a.add (i * sz + j)).block = a.block := by unfold Addr.add; split <;> rfl
        have e2 : (a.add (i * sz + j)).off = a.off + i * sz + j := by unfold Addr.add; split <;> first | omega | (dsimp only; omega)
        rw [e1, e2] at h3
        split at h3
        · rename_i heq
          rw [heq]
          split at h3
          · cases h3
          · exact h3
        · cases h3)
      rwa [h1] at this
    · subst hx
      have := light_len ht hw
      simpa using this
/-- A struct of one-cell fields: each cell with its own reading, its weight and its part of the datum. -/
theorem open_fields_d {W : World} {sp : Nat → Bool} {t : TypeId} {fs : Array Field} {fuel : Nat} {cs : List Value} {x : DataW H × List MemPlace} (ht : P.underlying t = some (.struct fs))
    (hone : oneCellFields P fs = true) (hC : P.cellsOf t = fs.size) (h : DataW.trod enc P W 0 sp true fuel t cs = some x) (hw : light P t x.1) :
    cs.length = fs.size ∧ ∃ parts : List (DataW H), x.1 = .agg parts ∧ parts.length = fs.size ∧ ∀ (j : Nat) (f : Field), fs[j]? = some f → ∃ (v : Value) (y : DataW H × List MemPlace) (n : Nat), cs[j]? = some v ∧ parts[j]? = some y.1 ∧ DataW.trod enc P W 0 sp true n f.type [v] = some y ∧ light P f.type y.1 := by
  obtain ⟨ys, n', hn', hy, hlen, hyl, hf⟩ := DataW.trod_struct ht h
  rw [hC] at hlen
  subst hy
  refine ⟨hlen, ys.map (·.1), rfl, by rw [List.length_map]; simpa using hyl, fun j f hj => ?_⟩
  obtain ⟨ho, hk⟩ := hone_of hone j f hj
  have hjl : j < fs.size := (Array.getElem?_eq_some_iff.1 hj).1
  have h1 := hf j f hj
  rw [ho, hk] at h1
  have hone' : (cs.drop j).take 1 = [cs[j]'(by omega)] := by
    rw [List.drop_eq_getElem_cons (by omega)]
    rfl
  rw [hone', List.getElem?_eq_getElem (by omega)] at h1
  have hp : (ys.map (·.1))[j]? = some (ys[j]'(by omega)).1 := by rw [List.getElem?_map, List.getElem?_eq_getElem (by omega)]; rfl
  exact ⟨_, _, _, List.getElem?_eq_getElem (by omega), hp, h1, light_field ht hw hj hp⟩
end
end Go.Fw
