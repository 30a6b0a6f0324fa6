/-
  Texts joined: Fw35.
-/
import Derived.Test.YtkkfgeekdaalmaaDoorYoq
import Derived.Deep.DeepAppendWide
set_option linter.unusedSimpArgs false
set_option linter.unusedVariables false
namespace Go.Fw
open Go Go.RowKit
section
variable {C : Pr} {fm : FM} {M : View} {own : List OB} {K : Value → View → List OB → Prop} {d : Option Nat} {ty : TypeId} {pos : String} {af : Array Edge} {g : Option (Nat × Bool)}
theorem run_append_w {wE : World} {mu : List Nat} {w : World} {p q : List OB} {ref : Option Nat} {A : Option Addr} {n cap m sz by_ : Nat} {xs sp news : List Value} {t tx e ty : TypeId} {z x2 : Value}
    (ht : tdSlice C.P t = some e) (hsz : sizeB C.P e = some sz) (hz : zeroB C.P e = some z) (hzs : z.cells.size = sz) (hby : bytesB C.P e = some by_)
    (hs : St wE mu M (p ++ ⟨ref, xs ++ sp, e⟩ :: q) w) (hxs : xs.length = n * sz) (hcap : xs.length + sp.length = cap * sz) (hnc : n ≤ cap) (hnone : ref = none → cap = 0)
    (hsrc : Src C.P sz tx x2 m news w) (hb : ((n + m) + (n + m) / 4 + 192) * by_ ≤ 281474976710656) (h63 : n + m ≤ 9223372036854775807) :
    ∃ ref' sp' cap' w', (Builtin.append_ #[t, tx] ty #[.slice (base ref A) n cap, x2]).run C.P w = .ok (.slice (base ref' A) (n + m) cap') w' ∧
      St wE mu M (p ++ ⟨ref', xs ++ news ++ sp', e⟩ :: q) w' ∧ (xs ++ news).length + sp'.length = cap' * sz ∧ n + m ≤ cap' ∧ (ref' = none → cap' = 0) := by
  have ht' := tdSlice_eq ht
  obtain ⟨i, hi⟩ : ∃ i, C.P.info? e = some i := by
    unfold sizeB at hsz; cases h : C.P.info? e with
    | none => rw [h] at hsz; cases hsz
    | some i => exact ⟨i, rfl⟩
  have e1 : i.size = sz := by unfold sizeB at hsz; rw [hi] at hsz; injection hsz
  have e2 : i.bytes = by_ := by unfold bytesB at hby; rw [hi] at hby; injection hby
  have e3 : i.zero = some z := by unfold zeroB at hz; rw [hi] at hz; exact hz
  subst e1
  have hnl : news.length = m * i.size := hsrc.newsLen
  by_cases hroom : n + m ≤ cap
  · -- room
    by_cases hm : m = 0
    · subst hm
      have hn0 : news = [] := List.eq_nil_of_length_eq_zero (by simpa using hnl)
      subst hn0
      refine ⟨ref, sp, cap, w, ?_, by simpa using hs, by simpa using hcap, by omega, hnone⟩
      have hb : base ref A = none ∨ ∃ a, base ref A = some a := by cases base ref A <;> simp
      rcases hb with hb | ⟨a, hb⟩
      · rw [hb]
        rcases hsrc.kind with ⟨e', hk⟩ | hk <;> simp [Builtin.append_, run_underlying ht', run_underlying hk, sizeOf, typeInfo, hi, hsrc.len, hnc, hsrc.cells]
      · rw [hb]
        rcases hsrc.kind with ⟨e', hk⟩ | hk <;> simp [Builtin.append_, run_underlying ht', run_underlying hk, sizeOf, typeInfo, hi, hsrc.len, hnc, hsrc.cells, storeCells]
    · cases ref with
      | none => exact absurd (hnone rfl) (by omega)
      | some b =>
        have hfit : news.length ≤ sp.length := by
          have : (n + m) * i.size ≤ cap * i.size := Nat.mul_le_mul_right _ hroom
          rw [Nat.add_mul] at this
          omega
        have hset := setN_app news xs sp hfit
        rw [hxs] at hset
        obtain ⟨w', e4, s4⟩ := St.storeN (C := C) (off := n * i.size) (i := 0) hs (by rw [Nat.add_zero]; exact hset) hsrc.one
        refine ⟨some b, sp.drop news.length, cap, w', ?_, s4, ?_, hroom, by simp⟩
        · simp only [base]
          rcases hsrc.kind with ⟨e', hk⟩ | hk <;> simp [Builtin.append_, run_underlying ht', run_underlying hk, sizeOf, typeInfo, hi, hsrc.len, hroom, hsrc.cells, Addr.add_lit, e4]
        · have : (n + m) * i.size ≤ cap * i.size := Nat.mul_le_mul_right _ hroom
          rw [Nat.add_mul] at this
          simp [hnl]
          omega
  · -- it grows
    have hlt : cap < n + m := by omega
    have hfit := growslice_fits_wide hlt hb
    have hold : (Builtin.firstCells i.size n (.slice (base ref A) n cap)).run C.P w.drew = .ok xs.toArray w.drew := by
      cases ref with
      | some b =>
        have hold := base_cell hs (b := b) (cs := xs ++ sp) (T := e) (by simp)
        exact run_firstCells_some w.drew i.size n ⟨b, 0, none⟩ n cap xs hxs (fun j v hv => by
          have := hold j v (by rw [List.getElem?_append_left (List.getElem?_eq_some_iff.1 hv).1]; exact hv)
          simpa using this)
      | none =>
        have hc0 := hnone rfl
        have hn0 : n = 0 := by omega
        subst hn0
        have hx0 : xs = [] := List.eq_nil_of_length_eq_zero (by simpa using hxs)
        subst hx0
        cases A with
        | none => exact run_firstCells_none w.drew i.size 0 0 cap
        | some a => exact run_firstCells_some w.drew i.size 0 a 0 cap [] (by simp) (by simp)
    have hr := run_append_grow_src (P := C.P) w t tx ty e i z ht' hi e3 (base ref A) n cap xs hold x2 m news hsrc hlt (by omega) (by rw [e2]; exact hfit)
    have hge : n + m ≤ grownCap w (n + m) cap e := grownCap_ge w (n + m) cap e
    generalize hc : grownCap w (n + m) cap e = cap' at hr hge
    refine ⟨some w.heap.size, (Builtin.zeroCells z.cells (cap' - (n + m))).toList, cap', _, hr, ?_, ?_, hge, by simp⟩
    · refine hs.replace (x := ⟨ref, xs ++ sp, e⟩) (Repl.mk p) ?_ rfl rfl rfl
      show w.heap.push _ = w.heap.push _
      congr 2
      apply Array.ext'
      simp
    · simp only [List.length_append, Array.length_toList, size_zeroCells, hzs, hxs, hnl, ← Nat.add_mul]
      congr 1; omega
theorem s_appendG_w {x y : Operand} {p q : List OB} {ref : Option Nat} {A : Option Addr} {n cap m sz by_ : Nat} {xs sp news : List Value} {t tx e : TypeId} {z x2 : Value}
    (hx : ev fm x = some (.slice (base ref A) n cap)) (hy : ev fm y = some x2)
    (hp : Spl own ⟨ref, xs ++ sp, e⟩ p q)
    (ht : tdSlice C.P t = some e) (hsz : sizeB C.P e = some sz) (hz : zeroB C.P e = some z) (hzs : z.cells.size = sz) (hby : bytesB C.P e = some by_)
    (hxs : xs.length = n * sz) (hcap : xs.length + sp.length = cap * sz) (hnc : n ≤ cap) (hnone : ref = none → cap = 0)
    (hsrc : ∀ w, St C.wE C.mu M own w → Src C.P sz tx x2 m news w) (hb : ((n + m) + (n + m) / 4 + 192) * by_ ≤ 281474976710656) (h63 : n + m ≤ 9223372036854775807)
    (k : ∀ ref' sp' cap', (xs ++ news).length + sp'.length = cap' * sz → n + m ≤ cap' → (ref' = none → cap' = 0) → K (.slice (base ref' A) (n + m) cap') M (p ++ ⟨ref', xs ++ news ++ sp', e⟩ :: q)) :
    Stp C ⟨d, .call { callee := .builtin .append, args := #[x, y], argTypes := #[t, tx] }, ty, pos, af, g⟩ fm M own K := by
  intro a w hf hs
  have hsrc := hsrc w hs
  rw [hp.eq] at hs
  obtain ⟨ref', sp', cap', w', hr, hs', h2, h3, h4⟩ := run_append_w (ty := ty) (A := A) ht hsz hz hzs hby hs hxs hcap hnc hnone hsrc hb h63
  have hrun : (execOp a.eval ⟨d, .call { callee := .builtin .append, args := #[x, y], argTypes := #[t, tx] }, ty, pos, af, g⟩).run C.P w = .ok (.value (.slice (base ref' A) (n + m) cap')) w' := by
    simp only [execOp, resolve, invoke, builtin, Sem.run_bind, Sem.run_pure, Result.andThen_ok, List.map_toArray, List.map_cons, List.map_nil, hf.eval hx, hf.eval hy, hr]
  unfold Okay
  rw [hrun]
  exact ⟨M, _, hs', k ref' sp' cap' h2 h3 h4⟩
theorem s_append_w {x y : Operand} {p q : List OB} {ref : Option Nat} {A a2 : Option Addr} {n cap m c2 b2 off2 sz by_ : Nat} {xs sp news : List Value} {t e : TypeId} {z : Value}
    (hx : ev fm x = some (.slice (base ref A) n cap)) (hy : ev fm y = some (.slice a2 m c2))
    (hp : Spl own ⟨ref, xs ++ sp, e⟩ p q)
    (ht : tdSlice C.P t = some e) (hsz : sizeB C.P e = some sz) (hz : zeroB C.P e = some z) (hzs : z.cells.size = sz) (hby : bytesB C.P e = some by_)
    (hxs : xs.length = n * sz) (hcap : xs.length + sp.length = cap * sz) (hnc : n ≤ cap) (hnone : ref = none → cap = 0)
    (ha2 : 0 < m → a2 = some ⟨b2, off2, none⟩) (hnews : RdN M own b2 off2 (m * sz) news) (h1 : ones news = true) (hb : ((n + m) + (n + m) / 4 + 192) * by_ ≤ 281474976710656) (h63 : n + m ≤ 9223372036854775807)
    (k : ∀ ref' sp' cap', (xs ++ news).length + sp'.length = cap' * sz → n + m ≤ cap' → (ref' = none → cap' = 0) → K (.slice (base ref' A) (n + m) cap') M (p ++ ⟨ref', xs ++ news ++ sp', e⟩ :: q)) :
    Stp C ⟨d, .call { callee := .builtin .append, args := #[x, y], argTypes := #[t, t] }, ty, pos, af, g⟩ fm M own K :=
  s_appendG_w hx hy hp ht hsz hz hzs hby hxs hcap hnc hnone (fun _ hs => src_slice hs ht ha2 hnews h1) hb h63 k
theorem s_append_rw {x y : Operand} {p q : List OB} {ref : Option Nat} {A a2 : Option Addr} {n cap m c2 b2 off2 sz by_ : Nat} {cs xs sp news : List Value} {t e : TypeId} {z : Value}
    (hx : ev fm x = some (.slice (base ref A) n cap)) (hy : ev fm y = some (.slice a2 m c2)) (hp : Spl own ⟨ref, cs, e⟩ p q) (hcs : cs = xs ++ sp)
    (ht : tdSlice C.P t = some e) (hsz : sizeB C.P e = some sz) (hz : zeroB C.P e = some z) (hzs : z.cells.size = sz) (hby : bytesB C.P e = some by_)
    (so : SO ref n cap xs sp sz) (ha2 : 0 < m → a2 = some ⟨b2, off2, none⟩) (hnews : RdN M own b2 off2 (m * sz) news) (h1 : ones news = true) (hb : ((n + m) + (n + m) / 4 + 192) * by_ ≤ 281474976710656) (h63 : n + m ≤ 9223372036854775807)
    (k : ∀ ref' sp' cap', SO ref' (n + m) cap' (xs ++ news) sp' sz → K (.slice (base ref' A) (n + m) cap') M (p ++ ⟨ref', xs ++ news ++ sp', e⟩ :: q)) :
    Stp C ⟨d, .call { callee := .builtin .append, args := #[x, y], argTypes := #[t, t] }, ty, pos, af, g⟩ fm M own K := by
  subst hcs
  intro a w hf hs
  have hnl : news.length = m * sz := (hs.cell hnews).length
  exact s_append_w hx hy hp ht hsz hz hzs hby so.hlen so.hcap so.hle so.hnone ha2 hnews h1 hb h63 (fun ref' sp' cap' h2 h3 h4 => k ref' sp' cap' ⟨by rw [List.length_append, so.hlen, hnl, Nat.add_mul], h2, h3, h4⟩) a w hf hs
end
end Go.Fw
