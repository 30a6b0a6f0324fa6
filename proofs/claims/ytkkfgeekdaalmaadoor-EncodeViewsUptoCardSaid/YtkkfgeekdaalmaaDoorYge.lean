/-
  Texts joined: Fw9 Fw10.
-/
import Derived.Test.YtkkfgeekdaalmaaDoorYgd
import Derived.ProofKit
import Derived.Deep.Slices
import Derived.Deep.Fields
set_option linter.unusedSimpArgs false
set_option linter.unusedVariables false
namespace Go.Fw
open Go Go.ChangeShapes Go.WideShapes Go.ChangeAt Go.RowKit Go.Deep
theorem Tr.below {w w' : World} {new : List OB} (h : Tr w w' [] new) : Below w.heap.size w w' :=
  ⟨h.os, h.tape, h.output, h.size, fun b hb => h.keep b hb (by simp)⟩
section
variable {H : Type} {enc : TypeId × Value → H} {P : Program}
theorem trodAll_below (hl : laidOutB P = true) {W W' : World} (hb : Below W.heap.size W W') :
    ∀ {ts : List TypeId} {vs : List Value} {ds : List (DataW H)} {ps : List MemPlace}, ts.all (fun t => P.readableRec t && decide (t < P.types.size)) = true →
      DataW.TrodAll enc P W 0 (fun _ => true) true ts vs ds ps → (∀ x ∈ ps, x.block < W.heap.size) →
      DataW.TrodAll enc P W' 0 (fun b => decide (b < W.heap.size)) true ts vs ds ps
  | [], vs, ds, ps, _, h, _ => by
    obtain ⟨rfl, rfl, rfl⟩ := trodAll_nil h
    rfl
  | t :: ts, vs, ds, ps, ht, h, hlt => by
    obtain ⟨v, vs', d, ds', p, q, rfl, rfl, rfl, h1, h2⟩ := trodAll_cons h
    simp only [List.all_cons, Bool.and_eq_true, decide_eq_true_eq] at ht
    exact ⟨p, q, Below.trod hl ht.1.1 ht.1.2 h1 hb (fun x hx => hlt x (List.mem_append_left _ hx)),
      trodAll_below hl hb ht.2 h2 (fun x hx => hlt x (List.mem_append_right _ hx)), rfl⟩
theorem trodAll_length {W : World} {base : Nat} {sp : Nat → Bool} {held : Bool} : ∀ {ts : List TypeId} {vs : List Value} {ds : List (DataW H)} {ps : List MemPlace}, DataW.TrodAll enc P W base sp held ts vs ds ps → ds.length = ts.length
  | [], vs, ds, ps, h => by
    obtain ⟨rfl, rfl, rfl⟩ := trodAll_nil h
    rfl
  | t :: ts, vs, ds, ps, h => by
    obtain ⟨v, vs', d, ds', p, q, rfl, rfl, rfl, h1, h2⟩ := trodAll_cons h
    simp [trodAll_length h2]
theorem law_contract {f : FuncId} {fn : Func} {s : ChangeSpec} {apart fresh handsOn again : Bool} {tb : TypeId}
    (hl : laidOutB P = true) (hb : P.underlying tb = some .bool) (hr : fn.resultTypes = #[tb]) (hv : s.vars = []) (hag : again = false)
    (hp : fn.params.toList.all (fun t => P.readableRec t && decide (t < P.types.size)) = true)
    (hs : ∀ ds : List (DataW H), ds.length = fn.params.toList.length → (s.fn H (ds ++ [])).results = [.lit (.bool true)] ∧ (s.fn H (ds ++ [])).args = ds ∧ (s.fn H (ds ++ [])).vars = [])
    (W : World) (args : Array Value) (ds gs : List (DataW H)) (before : List MemPlace)
    (hW : DataW.Whole enc P fn.params.toList s.vars apart W args.toList ds gs before)
    (hc : ∀ p, DataW.TrodAll enc P W 0 (fun _ => true) true fn.params.toList args.toList ds p → FnC P f args.toList W (fun v _ => v = .bool true)) :
    Calls P f args W fun e W' => ∃ v, e = .returned v ∧ s.post enc P fn apart fresh handsOn again W args v W' := by
  have hW' := hW
  obtain ⟨p, q, hA, hV, rfl, _, _⟩ := hW
  rw [hv] at hV
  obtain ⟨rfl, rfl⟩ := trodVars_none hV
  have hd := hs ds (trodAll_length hA)
  have h := hc p hA
  unfold FnC Ret at h
  simp only [Array.toArray_toList] at h
  refine h.mono fun e W' ⟨v, m, n, he, ht, hm, hvv⟩ => ?_
  subst hm hvv
  have hB := ht.below
  have hlt : ∀ x ∈ p, x.block < W.heap.size := fun x hx => by simpa using hW'.lt x (by simpa using hx)
  refine ⟨_, he, ds, [], p ++ [], [], p, [], hW', ?_, ?_, ?_, hB.frame _, fun h => by rw [hag] at h; cases h⟩
  · rw [hd.1, hr]
    exact trodAll_mk1 (shut_bool hb true)
  · rw [hd.2.1]
    exact trodAll_below hl hB hp hA hlt
  · rw [hd.2.2, hv]
    rfl
/-- One for each number below n. -/
theorem listOf {α : Type} {R : Nat → α → Prop} : ∀ (n : Nat), (∀ i, i < n → ∃ x, R i x) → ∃ l : List α, l.length = n ∧ ∀ i (h : i < l.length), R i l[i]
  | 0, _ => ⟨[], rfl, fun i h => by simp at h⟩
  | n + 1, h => by
    obtain ⟨l, hl, hr⟩ := listOf n (fun i hi => h i (by omega))
    obtain ⟨x, hx⟩ := h n (by omega)
    refine ⟨l ++ [x], by simp [hl], fun i hi => ?_⟩
    by_cases hin : i < l.length
    · rw [List.getElem_append_left hin]; exact hr i hin
    · have : i = n := by simp at hi; omega
      subst this
      rw [List.getElem_append_right (by omega)]
      simpa [hl] using hx
/-- A row of structs, or of whatever is laid in so many cells: opened. -/
theorem open_cell_row {W : World} {α : Type} {encl : α → List Value} {Q : α → Prop} {sz : Nat} {t e : TypeId} {sp : Nat → Bool} {v : Value} {x : DataW H × List MemPlace} {fuel : Nat}
    (ht : P.underlying t = some (.slice e)) (hC : P.cellsOf e = sz) (hz : 0 < sz)
    (hel : ∀ n cs y, DataW.trod enc P W 0 sp true n e cs = some y → ∃ u : α, Q u ∧ cs = encl u)
    (hf : DataW.trod enc P W 0 sp true fuel t [v] = some x) :
    ∃ (a : Option Addr) (l : List α) (b o c : Nat), v = .slice a l.length c ∧ SlA (View.of W) encl sz a l b o ∧ (∀ i (h : i < l.length), Q l[i]) ∧ l.length ≤ c ∧ c ≤ maxLen ∧ (a = none → c = 0) := by
  rcases open_slice ht hf with ⟨hcs, hx⟩ | ⟨a, len', cap', m, n, D, Pl, hcs, hb, hlc, hcm, hm, hx, hcell⟩
  · obtain rfl : v = .slice none 0 0 := by simpa using hcs
    exact ⟨none, [], 0, 0, 0, rfl, ⟨fun h => by simp at h, fun i h => by simp at h⟩, fun i h => by simp at h, Nat.le_refl _, Nat.zero_le _, fun _ => rfl⟩
  · obtain rfl : v = .slice (some a) len' cap' := by simpa using hcs
    have hlm : len' ≤ m := by rw [hm]; split <;> omega
    have each : ∀ i, i < len' → ∃ u : α, Q u ∧ (encl u).length = sz ∧ ∀ j, j < sz → W.cell? (a.add (i * sz + j)) = (encl u)[j]? := by
      intro i hi
      obtain ⟨cs', h1, h2⟩ := hcell i (by omega)
      obtain ⟨u, hu, rfl⟩ := hel _ _ _ h2
      rw [hC] at h1
      obtain ⟨_, hcl, hat⟩ := World.cells?_some h1
      exact ⟨u, hu, hcl, fun j hj => by rw [← hat j hj, Go.Deep.add_add]⟩
    obtain ⟨l, hl, hr⟩ := listOf len' each
    subst hl
    refine ⟨some a, l, a.block, a.off, cap', rfl, ⟨fun h0 => ?_, fun i hi => ?_⟩, fun i hi => (hr i hi).1, hlc, hcm, fun h => by cases h⟩
    · obtain ⟨_, h1, h2⟩ := hr 0 h0
      have h3 := h2 0 hz
      simp only [Nat.zero_mul, Nat.add_zero] at h3
      have h4 : a.spot = none := by
        unfold World.cell? Addr.add at h3
        simp only [if_true] at h3
        rw [List.getElem?_eq_getElem (by omega)] at h3
        cases hs : a.spot with
        | none => rfl
        | some x =>
          rw [hs] at h3
          split at h3 <;> simp at h3
      obtain ⟨b, o, s⟩ := a
      simp only at h4
      subst h4
      rfl
    · obtain ⟨_, h1, h2⟩ := hr i hi
      have := GetN.of_at (f := (View.of W).cell a.block) (vs := encl l[i]) (off := a.off + i * sz) (fun j hj => by
        have h3 := h2 j (by omega)
        rw [List.getElem?_eq_getElem hj] at h3
        unfold World.cell? at h3
        unfold View.cell View.of
        have e1 : (a.add (i * sz + j)).block = a.block := by unfold Addr.add; split <;> rfl
        have e2 : (a.add (i * sz + j)).off = a.off + i * sz + j := by unfold Addr.add; split <;> first | omega | (dsimp only; omega)
        rw [e1, e2] at h3
        split at h3
        · rename_i heq
          rw [heq]
          split at h3
          · cases h3
          · exact h3
        · cases h3)
      rwa [h1] at this
theorem open_row {W : World} {B : Nat} {α : Type} {encl : α → List Value} {Q : α → Prop} {sz : Nat} {t e : TypeId} {sp : Nat → Bool} {v : Value} {d : DataW H} {ps : List MemPlace}
    (ht : P.underlying t = some (.slice e)) (hC : P.cellsOf e = sz) (hz : 0 < sz)
    (hel : ∀ n cs y, DataW.trod enc P W 0 sp true n e cs = some y → ∃ u : α, Q u ∧ cs = encl u) (hok : Value.okWide P W .any B t v)
    (h : DataW.Trod enc P W 0 sp true t v d ps) :
    ∃ (a : Option Addr) (l : List α) (b o c : Nat), v = .slice a l.length c ∧ SlA (View.of W) encl sz a l b o ∧ (∀ i (h : i < l.length), Q l[i]) ∧ l.length ≤ c ∧ c ≤ maxLen ∧ (a = none → c = 0) := by
  obtain ⟨a0, len, cap, rfl⟩ := okWide_slice ht hok
  obtain ⟨fuel, hf⟩ := h
  exact open_cell_row ht hC hz hel hf
end
end Go.Fw
set_option linter.unusedSimpArgs false
set_option linter.unusedVariables false
namespace Go.Fw
open Go Go.RowKit
def lowK : IntKind → Int
  | .i8 => -128 | .i16 => -32768 | .i32 => -2147483648 | .i64 => -9223372036854775808
  | _ => 0
def highK : IntKind → Int
  | .i8 => 127 | .i16 => 32767 | .i32 => 2147483647 | .i64 => 9223372036854775807
  | .u8 => 255 | .u16 => 65535 | .u32 => 4294967295 | .u64 => 18446744073709551615
theorem wrap_fit {k : IntKind} {m : Int} (h1 : lowK k ≤ m) (h2 : m ≤ highK k) : k.wrap m = m := by
  cases k <;> simp only [lowK, highK] at h1 h2 <;> simp [IntKind.wrap, IntKind.bits, IntKind.signed] <;> omega
theorem wrap_i64 {m : Int} (h : -9223372036854775808 ≤ m ∧ m ≤ 9223372036854775807) : IntKind.i64.wrap m = m := wrap_fit h.1 h.2
theorem wrap_u8 {m : Int} (h : 0 ≤ m ∧ m ≤ 255) : IntKind.u8.wrap m = m := wrap_fit h.1 h.2
theorem wrap_u64 {m : Int} (h : 0 ≤ m ∧ m ≤ 18446744073709551615) : IntKind.u64.wrap m = m := wrap_fit h.1 h.2
theorem wrapU8 (m : Int) : IntKind.u8.wrap m = m % 256 := by simp [IntKind.wrap, IntKind.bits, IntKind.signed]
theorem wrapU64 (m : Int) : IntKind.u64.wrap m = m % 18446744073709551616 := by simp [IntKind.wrap, IntKind.bits, IntKind.signed]
section
variable {C : Pr} {fm : FM} {M : View} {own : List OB} {K : Value → View → List OB → Prop} {d : Option Nat} {ty : TypeId} {pos : String} {af : Array Edge} {g : Option (Nat × Bool)}
theorem s_makeFunc {fn : Fn} {xs ys : List Operand} {us vs : List Value} (hx : evs fm xs = some us) (hy : evs fm ys = some vs) :
    Pur C ⟨d, .makeFunc fn xs.toArray ys.toArray, ty, pos, af, g⟩ fm M own (.func fn us.toArray vs.toArray) :=
  fun a w hf _ => by
    have e1 := evs_eq hf hx
    have e2 := evs_eq hf hy
    simp [execOp, Instr.makeFunc, e1, e2]
theorem run_clo {n : Nat} {a : Act} {f : FuncId} {c : Operand} {xs : List Operand} {fs vs cs : List Value} {ts : Array TypeId} (hf : FrOk n a fm) (hc : ev fm c = some (.func (.func f) fs.toArray cs.toArray)) (hx : evs fm xs = some vs) (hg : goFunc C.P f = true) (w : World) :
    (execOp a.eval ⟨d, .call { callee := .value c, args := xs.toArray, argTypes := ts }, ty, pos, af, g⟩).run C.P w = .ok (.enter f (fs ++ vs ++ cs).toArray) w := by
  have e1 := evs_eq hf hx
  have e2 := hf.eval hc
  have e3 := run_callFunc hg (fs ++ vs ++ cs).toArray w
  have e4 : (fs ++ vs ++ cs).toArray = (fs.toArray ++ vs.toArray) ++ cs.toArray := by simp
  rw [e4] at e3 ⊢
  simp only [execOp, resolve, e2, Deferred.ofValue, Sem.run_bind, Sem.run_pure, Result.andThen_ok, invoke, List.map_toArray, e1]
  exact e3
theorem s_clov {f : FuncId} {c : Operand} {xs : List Operand} {fs vs cs : List Value} {ts : Array TypeId} {v : Value} (hc0 : ev fm c = some (.func (.func f) fs.toArray cs.toArray)) (hx : evs fm xs = some vs) (hg : goFunc C.P f = true)
    (hc : ∀ w, St C.wE C.mu M own w → FnC C.P f (fs ++ vs ++ cs) w (fun u _ => u = v)) (k : K v M own) :
    Stp C ⟨d, .call { callee := .value c, args := xs.toArray, argTypes := ts }, ty, pos, af, g⟩ fm M own K := by
  intro a w hf hs
  unfold Okay
  rw [run_clo hf hc0 hx hg w]
  refine Calls.mono (hc w hs) fun e w' ⟨u, m, new, h1, h2, h3, h4⟩ => ⟨u, h1, M, own, ?_, ?_⟩
  · subst h3
    exact (hs.call h2).weaken (View.le.refl M) (List.sublist_append_right new own)
  · subst h4; exact k
theorem some_ref {r : Option Nat} {n cap sz : Nat} {xs sp : List Value} (h : SO r n cap xs sp sz) (hn : 0 < n) : r = some (r.getD 0) := by
  cases r with
  | none => have := h.empty rfl; omega
  | some b => rfl
theorem OB.cell {w : World} {b off : Nat} {cs : List Value} {T : TypeId} {v : Value} (h : OB.ok ⟨some b, cs, T⟩ w) (hv : cs[off]? = some v) : (View.of w).cell b off = some v := by
  obtain ⟨fz, _, h⟩ := OB.ok_some h
  simp [View.cell, View.of, h, hv]
end
end Go.Fw
