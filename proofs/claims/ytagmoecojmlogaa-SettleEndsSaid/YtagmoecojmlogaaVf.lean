/-
  Texts joined: Fw11.
-/
import Derived.Test.YtagmoecojmlogaaVe
import Derived.Laws.Small
set_option linter.unusedSimpArgs false
set_option linter.unusedVariables false
namespace Go.Fw
open Go Go.RowKit
theorem slicedA_zero {b o m sz : Nat} : slicedA (some ⟨b, o, none⟩) 0 m sz = some ⟨b, o, none⟩ := by
  unfold slicedA
  split
  · rfl
  · simp [Addr.add_lit]
section
variable {C : Pr} {fm : FM} {M : View} {own : List OB} {K : Value → View → List OB → Prop} {d : Option Nat} {ty : TypeId} {pos : String} {af : Array Edge} {g : Option (Nat × Bool)}
theorem s_cap {x : Operand} {t e : TypeId} {a : Option Addr} {n c : Nat} (hx : ev fm x = some (.slice a n c)) (ht : tdSlice C.P t = some e) : Pur C ⟨d, .call { callee := .builtin .cap, args := #[x], argTypes := #[t] }, ty, pos, af, g⟩ fm M own (.int .i64 c) :=
  fun a w hf _ => ( by simp [execOp, resolve, invoke, builtin, hf.eval hx, Builtin.cap_, run_underlying (tdSlice_eq ht), goInt])
/-- append(s, make(..)...): zeros behind an empty slice that has no room. -/
theorem run_appendZ {P : Program} {w : World} {t tx ty e : TypeId} {i : TypeInfo} {z : Value} {k : IntKind} {A : Option Addr} {m : Nat} (ht : P.underlying t = some (.slice e)) (hk : P.underlying tx = some (.int k)) (hi : P.info? e = some i) (hz : i.zero = some z)
    (h0 : 0 < m) (hb : m * i.bytes ≤ 140737488355328) (h63 : m ≤ 4611686018427387904) (hs : 0 < i.size) :
    (Builtin.append_ #[t, tx] ty #[.slice A 0 0, .int .i64 m]).run P w =
      .ok (.slice (some ⟨w.heap.size, 0, none⟩) m (grownCap w m 0 e)) (w.drew.alloc (.cells (Builtin.zeroCells z.cells m ++ Builtin.zeroCells z.cells (grownCap w m 0 e - m)) e)) := by
  have hw : IntKind.i64.wrap (m : Int) = m := wrap_i64 (by omega)
  have hfit := growslice_fits (need := m) (old := 0) (bytes := i.bytes) h0 hb
  have h1 : ¬ ((m : Int) * (i.bytes : Int) > 2 ^ 48) := by
    have : (m : Int) * (i.bytes : Int) = ((m * i.bytes : Nat) : Int) := by simp
    rw [this]; omega
  have h2 : ¬ (281474976710656 < (m : Int) * (i.bytes : Int)) := h1
  have h3 : m ≠ 0 := by omega
  have h4 : ¬ (9223372036854775807 < (m : Int)) := by omega
  have h5 : ¬ (281474976710656 < Builtin.nextslicecap m 0 * i.bytes) := by omega
  have h6 : i.size ≠ 0 := by omega
  have h7 : ¬ ((m : Int) < 0) := by omega
  have h8 : ¬ (m * i.size = 0) := fun h => by rcases Nat.mul_eq_zero.1 h with h | h <;> omega
  cases A with
  | none =>
    simp [Builtin.append_, run_underlying ht, run_underlying hk, asInt, asIntOf, hw, sizeOf, typeInfo, hi, hz, zeroValue, h2, h3, h4, h5, h6, Question.forced, Builtin.firstCells, newRow, grownCap, h7, h8]
  | some a =>
    have hl : ∀ w' : World, (loadCells a 0).run P w' = .ok #[] w' := fun w' => by simp [loadCells, loadCellsFrom]
    simp [Builtin.append_, run_underlying ht, run_underlying hk, asInt, asIntOf, hw, sizeOf, typeInfo, hi, hz, zeroValue, h2, h3, h4, h5, h6, Question.forced, Builtin.firstCells, newRow, grownCap, hl, h7, h8]
theorem s_appendZ {x y : Operand} {p q : List OB} {A : Option Addr} {m sz by_ : Nat} {t tx e : TypeId} {z : Value} {k1 : IntKind} (hx : ev fm x = some (.slice A 0 0)) (hy : ev fm y = some (.int .i64 (m : Nat))) (hp : Spl own ⟨none, [], e⟩ p q)
    (ht : tdSlice C.P t = some e) (htx : tdInt C.P tx = some k1) (hsz : sizeB C.P e = some sz) (hz : zeroB C.P e = some z) (hzs : z.cells.size = sz) (hby : bytesB C.P e = some by_) (h0 : Nat.blt 0 sz = true) (hm : 0 < m) (hb : m * by_ ≤ 140737488355328) (h63 : m ≤ 4611686018427387904)
    (k : ∀ b sp cap, m ≤ cap → sp.length = cap * sz → K (.slice (some ⟨b, 0, none⟩) m cap) M (p ++ ⟨some b, sp, e⟩ :: q)) :
    Stp C ⟨d, .call { callee := .builtin .append, args := #[x, y], argTypes := #[t, tx] }, ty, pos, af, g⟩ fm M own K := by
  intro a w hf hs
  rw [hp.eq] at hs
  obtain ⟨i, hi⟩ : ∃ i, C.P.info? e = some i := by
    unfold sizeB at hsz; cases h : C.P.info? e with
    | none => rw [h] at hsz; cases hsz
    | some i => exact ⟨i, rfl⟩
  have e1 : i.size = sz := by unfold sizeB at hsz; rw [hi] at hsz; injection hsz
  have e2 : i.bytes = by_ := by unfold bytesB at hby; rw [hi] at hby; injection hby
  have e3 : i.zero = some z := by unfold zeroB at hz; rw [hi] at hz; exact hz
  have h0' : 0 < sz := by simp [Nat.blt] at h0; omega
  have hr := run_appendZ (w := w) (ty := ty) (A := A) (tdSlice_eq ht) (tdInt_eq htx) hi e3 hm (by rw [e2]; exact hb) h63 (by omega)
  have hge : m ≤ grownCap w m 0 e := grownCap_ge w m 0 e
  generalize hc : grownCap w m 0 e = cap' at hr hge
  have hrun : (execOp a.eval ⟨d, .call { callee := .builtin .append, args := #[x, y], argTypes := #[t, tx] }, ty, pos, af, g⟩).run C.P w = .ok (.value (.slice (some ⟨w.heap.size, 0, none⟩) m cap')) (w.drew.alloc (.cells (Builtin.zeroCells z.cells m ++ Builtin.zeroCells z.cells (cap' - m)) e)) := by
    simp only [execOp, resolve, invoke, builtin, Sem.run_bind, Sem.run_pure, Result.andThen_ok, List.map_toArray, List.map_cons, List.map_nil, hf.eval hx, hf.eval hy, hr]
  unfold Okay
  rw [hrun]
  refine ⟨M, _, hs.replace (x := ⟨none, [], e⟩) (cs' := (Builtin.zeroCells z.cells m ++ Builtin.zeroCells z.cells (cap' - m)).toList) (Repl.mk p) ?_ rfl rfl rfl, k _ _ _ hge ?_⟩
  · rw [Array.toArray_toList]
    rfl
  · rw [Array.length_toList, Array.size_append, size_zeroCells, size_zeroCells, hzs, ← Nat.add_mul]
    congr 1
    omega
end
/-- A row that the call hands back. -/
def RowRes {α : Type} (enc : α → List Value) (sz T : Nat) (xs : List α) (v : Value) (new : List OB) : Prop :=
  ∃ r A cap sp, v = .slice (base r A) xs.length cap ∧ new = [⟨r, flat enc xs ++ sp, T⟩] ∧ SO r xs.length cap (flat enc xs) sp sz
theorem RowRes.zero {α : Type} (enc : α → List Value) (sz T : Nat) : RowRes enc sz T [] (.slice none 0 0) [⟨none, [], T⟩] := ⟨none, none, 0, [], rfl, rfl, SO.nil sz⟩
theorem SO.emp {α : Type} {enc : α → List Value} {sz : Nat} {r : Option Nat} {xs : List α} {cap : Nat} {sp : List Value} (h : SO r xs.length cap (flat enc xs) sp sz) (hr : r = none) : xs = [] := List.length_eq_zero_iff.mp (h.empty hr)
/-- The first element that is wanted. -/
def idxI {α : Type} (p : α → Bool) (l : List α) : Int := if l.any p then ((l.findIdx p : Nat) : Int) else -1
theorem idxI_any {α : Type} {p : α → Bool} {xs : List α} : 0 ≤ idxI p xs ↔ xs.any p = true := by
  unfold idxI
  split
  · rename_i h; simp [h]
  · rename_i h; simp [h]
theorem idxI_first {α : Type} {p : α → Bool} {xs : List α} {k : Nat} (hk : k < xs.length) (ht : (xs.take k).any p = false) (hp : p xs[k] = true) : idxI p xs = k := by
  have h1 : xs.any p = true := List.any_eq_true.2 ⟨xs[k], List.getElem_mem hk, hp⟩
  have h2 : xs.findIdx p = k := by
    rw [List.findIdx_eq hk]
    refine ⟨hp, fun j hj => ?_⟩
    have := List.any_eq_false.1 ht xs[j] (List.mem_take_iff_getElem.2 ⟨j, by omega, rfl⟩)
    simpa using this
  simp [idxI, h1, h2]
/-- A slice that is an element of a row. -/
structure Sl (α : Type) where
  xs : List α
  a : Option Addr
  b : Nat
  o : Nat
  c : Nat
abbrev Sl.enc {α : Type} (s : Sl α) : List Value := [.slice s.a s.xs.length s.c]
theorem Sl.enc_length {α : Type} (s : Sl α) : s.enc.length = 1 := rfl
def catLen {α : Type} (L : List (Sl α)) : Nat := (L.map fun s => s.xs.length).sum
theorem catLen_snoc {α : Type} (L : List (Sl α)) (s : Sl α) : catLen (L ++ [s]) = catLen L + s.xs.length := by simp [catLen]
def catAll {α : Type} (L : List (Sl α)) : List α := L.flatMap Sl.xs
theorem catAll_snoc {α : Type} (L : List (Sl α)) (s : Sl α) : catAll (L ++ [s]) = catAll L ++ s.xs := by simp [catAll]
theorem catAll_length {α : Type} (L : List (Sl α)) : (catAll L).length = catLen L := by
  induction L with
  | nil => rfl
  | cons s L ih => simp only [catAll, catLen, List.flatMap_cons, List.length_append, List.map_cons, List.sum_cons] at ih ⊢; rw [ih]
theorem catLen_take {α : Type} (L : List (Sl α)) (k : Nat) : catLen (L.take k) ≤ catLen L := by
  induction L generalizing k with
  | nil => simp [catLen]
  | cons s L ih =>
    cases k with
    | zero => simp [catLen]
    | succ k =>
      have := ih k
      simp only [catLen, List.take_succ_cons, List.map_cons, List.sum_cons] at this ⊢
      omega
end Go.Fw
