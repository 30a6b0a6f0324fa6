/-
  The program logic, tenth part: function values, clear, rows that are written element by element.
-/
import Derived.Test.YtkbbbflojebfgaaDoorFw9
set_option linter.unusedSimpArgs false
set_option linter.unusedVariables false
namespace Go.Fw
open Go Go.RowKit

/-! #### numbers that fit -/
def lowK : IntKind → Int
  | .i8 => -128 | .i16 => -32768 | .i32 => -2147483648 | .i64 => -9223372036854775808
  | _ => 0
def highK : IntKind → Int
  | .i8 => 127 | .i16 => 32767 | .i32 => 2147483647 | .i64 => 9223372036854775807
  | .u8 => 255 | .u16 => 65535 | .u32 => 4294967295 | .u64 => 18446744073709551615
theorem wrap_fit {k : IntKind} {m : Int} (h1 : lowK k ≤ m) (h2 : m ≤ highK k) : k.wrap m = m := by
  cases k <;> simp only [lowK, highK] at h1 h2 <;> simp [IntKind.wrap, IntKind.bits, IntKind.signed] <;> omega
theorem wrap_i64 {m : Int} (h : -9223372036854775808 ≤ m ∧ m ≤ 9223372036854775807) : IntKind.i64.wrap m = m := wrap_fit h.1 h.2
theorem wrap_u8 {m : Int} (h : 0 ≤ m ∧ m ≤ 255) : IntKind.u8.wrap m = m := wrap_fit h.1 h.2
theorem wrap_u16 {m : Int} (h : 0 ≤ m ∧ m ≤ 65535) : IntKind.u16.wrap m = m := wrap_fit h.1 h.2
theorem wrap_u32 {m : Int} (h : 0 ≤ m ∧ m ≤ 4294967295) : IntKind.u32.wrap m = m := wrap_fit h.1 h.2
theorem wrap_u64 {m : Int} (h : 0 ≤ m ∧ m ≤ 18446744073709551615) : IntKind.u64.wrap m = m := wrap_fit h.1 h.2
theorem wrapU8 (m : Int) : IntKind.u8.wrap m = m % 256 := by simp [IntKind.wrap, IntKind.bits, IntKind.signed]
theorem wrapU16 (m : Int) : IntKind.u16.wrap m = m % 65536 := by simp [IntKind.wrap, IntKind.bits, IntKind.signed]
theorem wrapU32 (m : Int) : IntKind.u32.wrap m = m % 4294967296 := by simp [IntKind.wrap, IntKind.bits, IntKind.signed]
theorem wrapU64 (m : Int) : IntKind.u64.wrap m = m % 18446744073709551616 := by simp [IntKind.wrap, IntKind.bits, IntKind.signed]

section
variable {C : Pr} {fm : FM} {M : View} {own : List OB} {K : Value → View → List OB → Prop} {d : Option Nat} {ty : TypeId} {pos : String} {af : Array Edge} {g : Option (Nat × Bool)}

theorem s_makeFunc {fn : Fn} {xs ys : List Operand} {us vs : List Value} (hx : evs fm xs = some us) (hy : evs fm ys = some vs) :
    Pur C ⟨d, .makeFunc fn xs.toArray ys.toArray, ty, pos, af, g⟩ fm M own (.func fn us.toArray vs.toArray) :=
  fun a w hf _ => by
    have e1 := evs_eq hf hx
    have e2 := evs_eq hf hy
    simp [execOp, Instr.makeFunc, e1, e2]

theorem run_clo {n : Nat} {a : Act} {f : FuncId} {c : Operand} {xs : List Operand} {fs vs cs : List Value} {ts : Array TypeId} (hf : FrOk n a fm) (hc : ev fm c = some (.func (.func f) fs.toArray cs.toArray)) (hx : evs fm xs = some vs) (hg : goFunc C.P f = true) (w : World) :
    (execOp a.eval ⟨d, .call { callee := .value c, args := xs.toArray, argTypes := ts }, ty, pos, af, g⟩).run C.P w = .ok (.enter f (fs ++ vs ++ cs).toArray) w := by
  have e1 := evs_eq hf hx
  have e2 := hf.eval hc
  have e3 := run_callFunc hg (fs ++ vs ++ cs).toArray w
  have e4 : (fs ++ vs ++ cs).toArray = (fs.toArray ++ vs.toArray) ++ cs.toArray := by simp
  rw [e4] at e3 ⊢
  simp only [execOp, resolve, e2, Deferred.ofValue, Sem.run_bind, Sem.run_pure, Result.andThen_ok, invoke, List.map_toArray, e1]
  exact e3

theorem s_clo {f : FuncId} {c : Operand} {xs : List Operand} {fs vs cs : List Value} {ts : Array TypeId} {Ψ : Value → List OB → Prop} (hc0 : ev fm c = some (.func (.func f) fs.toArray cs.toArray)) (hx : evs fm xs = some vs) (hg : goFunc C.P f = true)
    (hc : ∀ w, St C.wE C.mu M own w → FnC C.P f (fs ++ vs ++ cs) w Ψ) (k : ∀ v new, Ψ v new → K v M (new ++ own)) :
    Stp C ⟨d, .call { callee := .value c, args := xs.toArray, argTypes := ts }, ty, pos, af, g⟩ fm M own K := by
  intro a w hf hs
  unfold Okay
  rw [run_clo hf hc0 hx hg w]
  refine Calls.mono (hc w hs) fun e w' ⟨v, m, new, h1, h2, h3, h4⟩ => ⟨v, h1, M, new ++ own, ?_, k v new h4⟩
  subst h3
  exact hs.call h2

theorem s_clov {f : FuncId} {c : Operand} {xs : List Operand} {fs vs cs : List Value} {ts : Array TypeId} {v : Value} (hc0 : ev fm c = some (.func (.func f) fs.toArray cs.toArray)) (hx : evs fm xs = some vs) (hg : goFunc C.P f = true)
    (hc : ∀ w, St C.wE C.mu M own w → FnC C.P f (fs ++ vs ++ cs) w (fun u _ => u = v)) (k : K v M own) :
    Stp C ⟨d, .call { callee := .value c, args := xs.toArray, argTypes := ts }, ty, pos, af, g⟩ fm M own K := by
  intro a w hf hs
  unfold Okay
  rw [run_clo hf hc0 hx hg w]
  refine Calls.mono (hc w hs) fun e w' ⟨u, m, new, h1, h2, h3, h4⟩ => ⟨u, h1, M, own, ?_, ?_⟩
  · subst h3
    exact (hs.call h2).weaken (View.le.refl M) (List.sublist_append_right new own)
  · subst h4; exact k

theorem s_clom {f : FuncId} {c : Operand} {xs : List Operand} {fs vs cs : List Value} {ts : Array TypeId} {Ψ : Value → List Value → List OB → Prop} {b : Nat} {us : List Value} {T : TypeId} {p q : List OB} (hc0 : ev fm c = some (.func (.func f) fs.toArray cs.toArray)) (hx : evs fm xs = some vs) (hg : goFunc C.P f = true)
    (hc : ∀ w, St C.wE C.mu M own w → Ret C.P f (fs ++ vs ++ cs) w (fun v m new => ∃ us', m = [⟨some b, us', T⟩] ∧ Ψ v us' new)) (hp : Spl own ⟨some b, us, T⟩ p q)
    (k : ∀ v us' new, Ψ v us' new → K v M (new ++ (p ++ ⟨some b, us', T⟩ :: q))) :
    Stp C ⟨d, .call { callee := .value c, args := xs.toArray, argTypes := ts }, ty, pos, af, g⟩ fm M own K := by
  intro a w hf hs
  unfold Okay
  rw [run_clo hf hc0 hx hg w]
  refine Calls.mono (hc w hs) fun e w' ⟨v, m, new, h1, h2, us', h3, h4⟩ => ?_
  subst h3
  rw [hp.eq] at hs
  exact ⟨v, h1, M, _, hs.callMut (Repl.mk p) h2, k v us' new h4⟩

/-! #### clear -/
theorem zeroCells_list (z : Value) (n : Nat) : (Builtin.zeroCells z.cells n).toList = (List.replicate n z.cells.toList).flatten := by
  unfold Builtin.zeroCells
  rw [Array.toList_map, Array.toList_range]
  have := range_cells z.cells.toList n
  simpa using this

theorem setN_mid : ∀ (news a old c : List Value), news.length = old.length → SetN (a ++ old ++ c) a.length news (a ++ news ++ c)
  | [], a, [], c, _ => by simpa using SetN.nil
  | [], a, o :: old, c, h => by simp at h
  | v :: news, a, [], c, h => by simp at h
  | v :: news, a, o :: old, c, h => by
    have ih := setN_mid news (a ++ [v]) old c (by simpa using h)
    have e : SetAt (a ++ (o :: old) ++ c) a.length v ((a ++ [v]) ++ old ++ c) := by
      have := SetAt.set (l := a ++ (o :: (old ++ c))) (n := a.length) (v := v) (by simp)
      rw [List.set_append_right _ _ (Nat.le_refl _)] at this
      simpa using this
    refine .cons e ?_
    simpa using ih

theorem setN_at {l : List Value} {off : Nat} {vs : List Value} (h : off + vs.length ≤ l.length) : SetN l off vs (l.take off ++ vs ++ l.drop (off + vs.length)) := by
  have := setN_mid vs (l.take off) ((l.drop off).take vs.length) (l.drop (off + vs.length)) (by simp; omega)
  have e1 : (l.take off).length = off := by simp; omega
  have e2 : l.take off ++ (l.drop off).take vs.length ++ l.drop (off + vs.length) = l := by
    rw [List.append_assoc, ← List.drop_drop, List.take_append_drop, List.take_append_drop]
  rw [e1, e2] at this
  exact this

theorem setN_flat {α : Type} {enc : α → List Value} {sz : Nat} (he : ∀ x, (enc x).length = sz) {xs : List α} {sp : List Value} {i : Nat} {v : α} (h : i < xs.length) : SetN (flat enc xs ++ sp) (0 + i * sz) (enc v) (flat enc (xs.set i v) ++ sp) := by
  have hl : xs = xs.take i ++ xs[i] :: xs.drop (i + 1) := by simp
  have hs : xs.set i v = xs.take i ++ v :: xs.drop (i + 1) := by
    rw [List.set_eq_take_append_cons_drop, if_pos h]
  have e1 : flat enc xs ++ sp = flat enc (xs.take i) ++ enc xs[i] ++ (flat enc (xs.drop (i + 1)) ++ sp) := by
    conv => lhs; rw [hl]
    simp only [flat, List.flatMap_append, List.flatMap_cons, List.append_assoc]
  have e2 : flat enc (xs.set i v) ++ sp = flat enc (xs.take i) ++ enc v ++ (flat enc (xs.drop (i + 1)) ++ sp) := by
    rw [hs]
    simp [flat]
  rw [e1, e2]
  have := setN_mid (enc v) (flat enc (xs.take i)) (enc xs[i]) (flat enc (xs.drop (i + 1)) ++ sp) (by rw [he, he])
  have e3 : (flat enc (xs.take i)).length = 0 + i * sz := by
    rw [flat_length he, List.length_take, Nat.min_eq_left (by omega)]; omega
  rwa [e3] at this

theorem s_clear {x : Operand} {a : Option Addr} {n c t e sz b off : Nat} {z : Value} {cs : List Value} {T : TypeId} {p q : List OB} (hx : ev fm x = some (.slice a n c)) (ht : tdSlice C.P t = some e) (hz : zeroB C.P e = some z) (hp : Spl own ⟨some b, cs, T⟩ p q)
    (hzs : z.cells.size = sz) (h1 : ones z.cells.toList = true) (ha : 0 < n → a = some ⟨b, off, none⟩) (hl : off + n * sz ≤ cs.length)
    (k : K (.tuple #[]) M (p ++ ⟨some b, cs.take off ++ (List.replicate n z.cells.toList).flatten ++ cs.drop (off + n * sz), T⟩ :: q)) :
    Stp C ⟨d, .call { callee := .builtin .clear, args := #[x], argTypes := #[t] }, ty, pos, af, g⟩ fm M own K := by
  intro act w hf hs
  have hlen : ((List.replicate n z.cells.toList).flatten).length = n * sz := by simp [hzs]
  by_cases hn : n = 0
  · subst hn
    have hrun : (execOp act.eval ⟨d, .call { callee := .builtin .clear, args := #[x], argTypes := #[t] }, ty, pos, af, g⟩).run C.P w = .ok (.value (.tuple #[])) w := by
      cases a <;> simp [execOp, resolve, invoke, builtin, hf.eval hx, Builtin.clear_, run_underlying (tdSlice_eq ht)]
    unfold Okay
    rw [hrun]
    refine ⟨M, own, hs, ?_⟩
    rw [hp.eq]
    simpa using k
  · rw [ha (by omega)] at hx
    rw [hp.eq] at hs
    have hset : SetN cs off (List.replicate n z.cells.toList).flatten (cs.take off ++ (List.replicate n z.cells.toList).flatten ++ cs.drop (off + n * sz)) := by
      have := setN_at (l := cs) (off := off) (vs := (List.replicate n z.cells.toList).flatten) (by rw [hlen]; exact hl)
      rwa [hlen] at this
    obtain ⟨w', e4, s4⟩ := St.storeN (C := C) (off := off) (i := 0) hs (by rw [Nat.add_zero]; exact hset) (fun v hv => by
      obtain ⟨l, hl1, hl2⟩ := List.mem_flatten.1 hv
      obtain ⟨_, rfl⟩ := List.mem_replicate.1 hl1
      exact ones_spec h1 v hl2)
    have hrun : (execOp act.eval ⟨d, .call { callee := .builtin .clear, args := #[x], argTypes := #[t] }, ty, pos, af, g⟩).run C.P w = .ok (.value (.tuple #[])) w' := by
      have hn' : n ≠ 0 := hn
      cases n with
      | zero => exact absurd rfl hn
      | succ n => simp [execOp, resolve, invoke, builtin, hf.eval hx, Builtin.clear_, run_underlying (tdSlice_eq ht), run_zeroValue hz, zeroCells_list, e4]
    unfold Okay
    rw [hrun]
    exact ⟨M, _, s4, k⟩

/-- One cell out of several. -/
theorem GetN.fld {f : Nat → Option Value} {off n : Nat} {vs : List Value} (h : GetN f off n vs) (j : Nat) {v : Value} (hv : vs[j]? = some v) : GetN f (off + j) 1 [v] := by
  have hj : j < vs.length := (List.getElem?_eq_some_iff.1 hv).1
  have := h.at j (by rw [← h.length]; exact hj)
  refine .cons (by rw [this]; simp [List.getD, hv]) .nil

/-- The last element of a row. -/
theorem getN_snoc {α : Type} {enc : α → List Value} {sz : Nat} (he : ∀ x, (enc x).length = sz) {xs : List α} {y : α} {sp : List Value} : GetN ((flat enc (xs ++ [y]) ++ sp)[·]?) (0 + xs.length * sz) sz (enc y) := by
  have := getN_flat he (xs := xs ++ [y]) (sp := sp) (i := xs.length) (by simp)
  simpa using this
/-- A row that has an element lies in a block. -/
theorem some_base {r : Option Nat} {A : Option Addr} {n cap sz : Nat} {xs sp : List Value} (h : SO r n cap xs sp sz) (hn : 0 < n) : base r A = some ⟨r.getD 0, 0, none⟩ := by
  cases r with
  | none => have := h.empty rfl; omega
  | some b => rfl

theorem RdN.ownr {M : View} {own : List OB} {r : Option Nat} {b off n : Nat} {cs vs : List Value} {T : TypeId} (h : Has own ⟨r, cs, T⟩) (hr : r = some b) (hg : GetN (cs[·]?) off n vs) : RdN M own b off n vs := by
  subst hr
  exact .own h hg
theorem some_ref {r : Option Nat} {n cap sz : Nat} {xs sp : List Value} (h : SO r n cap xs sp sz) (hn : 0 < n) : r = some (r.getD 0) := by
  cases r with
  | none => have := h.empty rfl; omega
  | some b => rfl

/-! #### two blocks of ours are two -/
theorem St.ne {wE : World} {mu : List Nat} {w : World} {b b' : Nat} {cs cs' : List Value} {T T' : TypeId} {p q : List OB} (hs : St wE mu M own w) (hp : Spl own ⟨some b, cs, T⟩ p q) (hy : Has (p ++ q) ⟨some b', cs', T'⟩) : b' ≠ b := by
  intro e
  subst e
  have hnd := hs.nodup
  rw [hp.eq, List.filterMap_append, List.filterMap_cons] at hnd
  simp only at hnd
  have h1 := (List.perm_middle.nodup_iff).1 hnd
  rw [List.nodup_cons, ← List.filterMap_append] at h1
  exact h1.1 (List.mem_filterMap.2 ⟨_, hy.mem, rfl⟩)
theorem View.but_cell {w : World} {b b' off : Nat} {v : Value} (hne : b' ≠ b) (h : (View.of w).cell b' off = some v) : ((View.of w).but [b]).cell b' off = some v := by
  simpa [View.cell, View.but, hne] using h
theorem OB.cell {w : World} {b off : Nat} {cs : List Value} {T : TypeId} {v : Value} (h : OB.ok ⟨some b, cs, T⟩ w) (hv : cs[off]? = some v) : (View.of w).cell b off = some v := by
  obtain ⟨fz, _, h⟩ := OB.ok_some h
  simp [View.cell, View.of, h, hv]
end
end Go.Fw
