/-
  The program logic, thirteenth part: numbers of other kinds in rows and arrays; arrays as values; complement.
-/
import Derived.Test.YtkbbbflojebfgaaDoorFw12
import Derived.ChangeKeysEq
import Derived.Laws.Strings
set_option linter.unusedSimpArgs false
set_option linter.unusedVariables false
namespace Go.Fw
open Go Go.RowKit

/-! #### rows of numbers of one kind -/
abbrev eK (k : IntKind) (v : Int) : List Value := [.int k v]
theorem eK_length (k : IntKind) (v : Int) : (eK k v).length = 1 := rfl
theorem eK_ones (k : IntKind) (v : Int) : ones (eK k v) = true := rfl
theorem flatK_length {k : IntKind} {xs : List Int} : (flat (eK k) xs).length = xs.length := by
  rw [flat_length (sz := 1) (fun _ => rfl), Nat.mul_one]
theorem flatK_map (k : IntKind) (xs : List Int) : flat (eK k) xs = xs.map (Value.int k) := by
  induction xs with
  | nil => rfl
  | cons x xs ih => simpa [flat] using ih
theorem flatK_get {k : IntKind} {xs : List Int} {i : Nat} (h : i < xs.length) : (flat (eK k) xs)[i]? = some (.int k (xs.getD i 0)) := by
  rw [flatK_map]
  simp [List.getElem?_map, List.getD, List.getElem?_eq_getElem h]
theorem getNK {k : IntKind} {xs : List Int} {sp : List Value} {i : Nat} (h : i < xs.length) : GetN ((flat (eK k) xs ++ sp)[·]?) (0 + i * 1) 1 [.int k (xs.getD i 0)] := by
  refine .cons ?_ .nil
  rw [show 0 + i * 1 = i by omega, List.getElem?_append_left (by rw [flatK_length]; exact h), flatK_get h]
theorem getNK0 {k : IntKind} {xs : List Int} {i : Nat} (h : i < xs.length) : GetN ((flat (eK k) xs)[·]?) (0 + i * 1) 1 [.int k (xs.getD i 0)] := by
  refine .cons ?_ .nil
  rw [show 0 + i * 1 = i by omega, flatK_get h]
theorem getN_whole : ∀ (l : List Value), GetN (l[·]?) 0 l.length l := by
  have key : ∀ (l a : List Value), GetN ((a ++ l)[·]?) a.length l.length l := by
    intro l
    induction l with
    | nil => intro a; exact .nil
    | cons v l ih =>
      intro a
      refine .cons (by simp) ?_
      have := ih (a ++ [v])
      simpa using this
  intro l
  simpa using key l []
theorem getNK_all {k : IntKind} {xs : List Int} {n : Nat} (h : xs.length = n) : GetN ((flat (eK k) xs)[·]?) 0 n (flat (eK k) xs) := by
  have := getN_whole (flat (eK k) xs)
  rw [flatK_length, h] at this
  exact this
theorem flatK_set {k : IntKind} {xs : List Int} {i : Nat} {v : Int} (h : i < xs.length) : (flat (eK k) xs).set i (.int k v) = flat (eK k) (xs.set i v) := by
  rw [flatK_map, flatK_map, List.map_set]
theorem setAtK {k : IntKind} {xs : List Int} {sp : List Value} {i : Nat} {v : Int} (h : i < xs.length) : SetAt (flat (eK k) xs ++ sp) (0 + i * 1) (.int k v) (flat (eK k) (xs.set i v) ++ sp) := by
  have := SetAt.set (l := flat (eK k) xs ++ sp) (n := i) (v := .int k v) (by rw [List.length_append, flatK_length]; omega)
  rw [List.set_append_left _ _ (by rw [flatK_length]; exact h), flatK_set h] at this
  rw [show 0 + i * 1 = i by omega]
  exact this
theorem setAtK0 {k : IntKind} {xs : List Int} {i : Nat} {v : Int} (h : i < xs.length) : SetAt (flat (eK k) xs) (0 + i * 1) (.int k v) (flat (eK k) (xs.set i v)) := by
  have := setAtK (k := k) (sp := []) (v := v) h
  rwa [List.append_nil, List.append_nil] at this
theorem setNK {k : IntKind} {xs ys : List Int} (h : xs.length = ys.length) : SetN (flat (eK k) xs) 0 (flat (eK k) ys) (flat (eK k) ys) := by
  have := setN_mid (flat (eK k) ys) [] (flat (eK k) xs) [] (by rw [flatK_length, flatK_length, h])
  simpa using this
theorem flatK_ones {k : IntKind} {xs : List Int} : ones (flat (eK k) xs) = true := by
  induction xs with
  | nil => rfl
  | cons x xs ih =>
    have e : flat (eK k) (x :: xs) = .int k x :: flat (eK k) xs := rfl
    rw [e]
    simp only [ones]
    exact ih
theorem flatK_inj {k : IntKind} {xs ys : List Int} (h : flat (eK k) xs = flat (eK k) ys) : xs = ys := by
  rw [flatK_map, flatK_map] at h
  induction xs generalizing ys with
  | nil => cases ys with
    | nil => rfl
    | cons y ys => simp at h
  | cons x xs ih => cases ys with
    | nil => simp at h
    | cons y ys =>
      simp only [List.map_cons, List.cons.injEq, Value.int.injEq, true_and] at h
      rw [h.1, ih h.2]

section
variable {C : Pr} {fm : FM} {M : View} {own : List OB} {K : Value → View → List OB → Prop} {d : Option Nat} {ty : TypeId} {pos : String} {af : Array Edge} {g : Option (Nat × Bool)}

theorem s_compl32 {t : TypeId} {x : Operand} {m : Int} (hx : ev fm x = some (.int .u32 m)) : Pur C ⟨d, .unOp .xor t x, ty, pos, af, g⟩ fm M own (.int .u32 (bits .xor .u32 4294967295 m)) :=
  fun a w hf _ => by
    have e : Op.unary .xor (.int .u32 m) = pure (.int .u32 (bits .xor .u32 4294967295 m)) := rfl
    simp [execOp, hf.eval hx, e]

theorem s_negW {t : TypeId} {x : Operand} {k : IntKind} {m : Int} (hx : ev fm x = some (.int k m)) : Pur C ⟨d, .unOp .neg t x, ty, pos, af, g⟩ fm M own (.int k (k.wrap (0 - m))) :=
  fun a w hf _ => by
    have e : Op.unary .neg (.int k m) = pure (.int k (k.wrap (0 - m))) := rfl
    simp [execOp, hf.eval hx, e]

theorem LEq_refl : ∀ l : List Value, LEq l l
  | [] => .nil
  | v :: l => .cons (LEq_refl l)
theorem s_allocK {t n : Nat} {k : IntKind} (hz : zeroB C.P t = some (.agg (flat (eK k) (List.replicate n 0)).toArray)) (kk : ∀ b, K (.pointer (some ⟨b, 0, none⟩)) M (⟨some b, flat (eK k) (List.replicate n 0), t⟩ :: own)) : Stp C ⟨d, .alloc t, ty, pos, af, g⟩ fm M own K :=
  s_alloc hz (by simpa [Value.cells] using LEq_refl (flat (eK k) (List.replicate n 0))) kk

/-- An element of an array that is a value. -/
theorem s_indexV {t e n : Nat} {x y : Operand} {ik : IntKind} {i : Int} {vs : List Value} {v : Value} (hx : ev fm x = some (.agg vs.toArray)) (hy : ev fm y = some (.int ik i)) (ht : tdArray C.P t = some (n, e)) (hs : sizeB C.P e = some 1) (ha : aggB C.P e = some false) (hi : 0 ≤ i ∧ i < n) (hv : vs[i.toNat]? = some v) :
    Pur C ⟨d, .index t x y, ty, pos, af, g⟩ fm M own v :=
  fun act w hf _ => by
    have hag : ∀ w, (isAgg e).run C.P w = .ok false w := fun w => run_isAgg ha w
    simp [execOp, hf.eval hx, hf.eval hy, Instr.index, asIntOf, run_underlying (tdArray_eq ht), hi.1, hi.2, run_sizeOf hs, part, hag, hv]
theorem s_indexVK {t e n : Nat} {x y : Operand} {ik k : IntKind} {i : Nat} {xs : List Int} (hx : ev fm x = some (.agg (flat (eK k) xs).toArray)) (hy : ev fm y = some (.int ik (i : Nat))) (ht : tdArray C.P t = some (n, e)) (hs : sizeB C.P e = some 1) (ha : aggB C.P e = some false) (hl : xs.length = n) (hi : i < n) :
    Pur C ⟨d, .index t x y, ty, pos, af, g⟩ fm M own (.int k (xs.getD i 0)) :=
  s_indexV hx hy ht hs ha ⟨by omega, by omega⟩ (by simpa using flatK_get (k := k) (i := i) (by omega))

/-! #### arrays of numbers, compared -/
theorem run_eqItemsK {P : Program} (dd : Nat) {e : TypeId} {kk k : IntKind} (hu : P.underlying e = some (.int kk)) {xs ys : List Int} (hl : xs.length = ys.length) (w : World) : ∀ (m j : Nat), j + m = xs.length →
    (Op.eqItems (dd + 1) e 1 (flat (eK k) xs).toArray (flat (eK k) ys).toArray (List.range' j m)).run P w = .ok (decide (xs.drop j = ys.drop j)) w
  | 0, j, h => by
    have e1 : xs.drop j = [] := List.drop_eq_nil_of_le (by omega)
    have e2 : ys.drop j = [] := List.drop_eq_nil_of_le (by omega)
    simp [Op.eqItems, e1, e2]
  | m + 1, j, h => by
    have hag : ∀ w, (isAgg e).run P w = .ok false w := fun w => run_isAgg (by unfold aggB; rw [hu]) w
    have hp : ∀ zs : List Int, (hz : j < zs.length) → (part e (flat (eK k) zs).toArray (j * 1)).run P w = .ok (.int k (zs.getD j 0)) w := by
      intro zs hz
      unfold part
      simp only [Sem.run_bind, hag, Result.andThen_ok, Bool.false_eq_true, if_false]
      have := flatK_get (k := k) hz
      simp [this]
    have hkx : j < xs.length := by omega
    have hky : j < ys.length := by omega
    have ih := run_eqItemsK (k := k) dd hu hl w m (j + 1) (by omega)
    rw [List.range'_succ]
    unfold Op.eqItems
    simp only [Sem.run_bind, hp xs hkx, hp ys hky, Result.andThen_ok, run_equalIn_int w dd e k kk _ _ hu]
    have gx : xs.getD j 0 = xs[j] := by simp [List.getD, List.getElem?_eq_getElem hkx]
    have gy : ys.getD j 0 = ys[j] := by simp [List.getD, List.getElem?_eq_getElem hky]
    rw [gx, gy]
    have hiff : (xs.drop j = ys.drop j) ↔ (xs[j] = ys[j] ∧ xs.drop (j + 1) = ys.drop (j + 1)) := by
      rw [List.drop_eq_getElem_cons hkx, List.drop_eq_getElem_cons hky, List.cons.injEq]
    by_cases he : xs[j] = ys[j]
    · have hb : (xs[j] == ys[j]) = true := by simpa using he
      rw [hb]
      simp only [Bool.not_true, Bool.false_eq_true, if_false, ih, hiff, he, true_and]
    · have hb : (xs[j] == ys[j]) = false := by simpa using he
      rw [hb]
      simp only [Bool.not_false, if_true, Sem.run_pure, hiff, he, false_and, decide_false]

def intArray (P : Program) (t n : Nat) : Bool :=
  !P.eqGuardType P.depth t && (match P.underlying t with
    | some (.array m e) => Nat.beq m n && (match tdInt P e with | some _ => true | none => false) && Nat.beq (P.cellsOf e) 1 && (P.info? e).isSome
    | _ => false)
theorem run_eqArray {P : Program} {t n : Nat} (h : intArray P t n = true) {k : IntKind} {xs ys : List Int} (h1 : xs.length = n) (h2 : ys.length = n) (w : World) : (Op.equalIn 10000 t (.agg (flat (eK k) xs).toArray) (.agg (flat (eK k) ys).toArray)).run P w = .ok (decide (xs = ys)) w := by
  unfold intArray at h
  simp only [Bool.and_eq_true, Bool.not_eq_true'] at h
  obtain ⟨_, h5⟩ := h
  split at h5
  · rename_i m e hu
    simp only [Bool.and_eq_true] at h5
    obtain ⟨⟨⟨hn, h3⟩, hc⟩, hi⟩ := h5
    have hn := Nat.eq_of_beq_eq_true hn
    have hc := Nat.eq_of_beq_eq_true hc
    obtain ⟨kk, hkk⟩ : ∃ kk, tdInt P e = some kk := by cases e' : tdInt P e with
      | none => rw [e'] at h3; cases h3
      | some kk => exact ⟨kk, rfl⟩
    obtain ⟨i, hi⟩ := Option.isSome_iff_exists.1 hi
    subst hn
    rw [run_equalIn_array w 9999 _ _ hu hi, hc, List.range_eq_range']
    have := run_eqItemsK (k := k) 9998 (tdInt_eq hkk) (xs := xs) (ys := ys) (by omega) w m 0 (by omega)
    simpa using this
  · cases h5

theorem s_eqlA {t n : Nat} {t' : TypeId} {x y : Operand} {vs us : List Value} {k : IntKind} {xs ys : List Int} (hx : ev fm x = some (.agg vs.toArray)) (hy : ev fm y = some (.agg us.toArray)) (h : intArray C.P t n = true) (ex : vs = flat (eK k) xs) (ey : us = flat (eK k) ys) (h1 : xs.length = n) (h2 : ys.length = n) :
    Cmp C ⟨d, .binOp .eql t x y t', ty, pos, af, g⟩ fm M own (xs = ys) := by
  subst ex ey
  have hg : C.P.eqGuardType C.P.depth t = false := by unfold intArray at h; simp only [Bool.and_eq_true, Bool.not_eq_true'] at h; exact h.1
  have base : ∀ act w, FrOk C.n act fm → (execOp act.eval ⟨d, .binOp .eql t x y t', ty, pos, af, g⟩).run C.P w = .ok (.value (.bool (decide (xs = ys)))) w := fun act w hf => by
    simp only [execOp, hf.eval hx, hf.eval hy, Sem.run_bind, run_eqGuard_agg w _ _ _ _ _ _ hg, Result.andThen_ok, run_eql_struct w, run_eqArray h h1 h2 w]
    rfl
  exact ⟨fun hp act w hf _ => by rw [base act w hf, decide_eq_true hp], fun hp act w hf _ => by rw [base act w hf, decide_eq_false hp]⟩
theorem s_neqA {t n : Nat} {t' : TypeId} {x y : Operand} {vs us : List Value} {k : IntKind} {xs ys : List Int} (hx : ev fm x = some (.agg vs.toArray)) (hy : ev fm y = some (.agg us.toArray)) (h : intArray C.P t n = true) (ex : vs = flat (eK k) xs) (ey : us = flat (eK k) ys) (h1 : xs.length = n) (h2 : ys.length = n) :
    Cmp C ⟨d, .binOp .neq t x y t', ty, pos, af, g⟩ fm M own (¬ xs = ys) := by
  subst ex ey
  have hg : C.P.eqGuardType C.P.depth t = false := by unfold intArray at h; simp only [Bool.and_eq_true, Bool.not_eq_true'] at h; exact h.1
  have base : ∀ act w, FrOk C.n act fm → (execOp act.eval ⟨d, .binOp .neq t x y t', ty, pos, af, g⟩).run C.P w = .ok (.value (.bool (!decide (xs = ys)))) w := fun act w hf => by
    simp only [execOp, hf.eval hx, hf.eval hy, Sem.run_bind, run_eqGuard_agg w _ _ _ _ _ _ hg, Result.andThen_ok, run_neq_struct w, run_eqArray h h1 h2 w]
    rfl
  exact ⟨fun hp act w hf _ => by rw [base act w hf, decide_eq_false hp]; rfl, fun hp act w hf _ => by rw [base act w hf, decide_eq_true (Decidable.not_not.1 hp)]; rfl⟩

theorem s_storeK {t n b : Nat} {k : IntKind} {x y : Operand} {xs ys : List Int} {T : TypeId} {own' : List OB} {KK : Value → View → List OB → Prop} (hx : ev fm x = some (.pointer (some ⟨b, 0, none⟩))) (hy : ev fm y = some (.agg (flat (eK k) ys).toArray)) (ht : sizeB C.P t = some n)
    (hr : Repl own ⟨some b, flat (eK k) xs, T⟩ ⟨some b, flat (eK k) ys, T⟩ own') (h1 : xs.length = n) (h2 : ys.length = n) (kk : KK undef M own') : Stp C ⟨d, .store t x y, ty, pos, af, g⟩ fm M own KK :=
  s_storeN hx hy ht (by rw [flatK_length, h2]) flatK_ones hr (setNK (by rw [h1, h2])) kk

/-! #### slices of an array in memory -/
def slicedP (b o l m sz : Nat) : Addr := if m = l then ⟨b, o, none⟩ else ⟨b, o + l * sz, none⟩
theorem s_sliceP {t e sz n l h m b o : Nat} {x : Operand} {lo hi mx : Option Operand} (hx : ev fm x = some (.pointer (some ⟨b, o, none⟩))) (ht : tdArray C.P t = some (n, e)) (hs : sizeB C.P e = some sz)
    (hl : bnd fm lo 0 l) (hh : bnd fm hi n h) (hm : bnd fm mx n m) (hmx : mx.isSome = true → hi.isSome = true) (h1 : l ≤ h) (h2 : h ≤ m) (h3 : m ≤ n) :
    Pur C ⟨d, .slice t x lo hi mx, ty, pos, af, g⟩ fm M own (.slice (some (slicedP b o l m sz)) (h - l) (m - l)) :=
  fun act w hf _ => by
    have ht' := tdArray_eq ht
    have hb : (Instr.sliceBounds false n n (lo.map act.eval) (hi.map act.eval) (mx.map act.eval)).run C.P w = .ok (l, h, m) w := by
      cases lo <;> cases hi <;> cases mx <;> simp only [bnd] at hl hh hm <;> (try (simp at hmx; done))
      all_goals
        (try obtain ⟨k1, e1⟩ := hl); (try obtain ⟨k2, e2⟩ := hh); (try obtain ⟨k3, e3⟩ := hm)
        (try subst hl); (try subst hh); (try subst hm)
        simp [Instr.sliceBounds, *, hf.eval, run_sliceBound]
    have key : (Instr.sliceAt t (.pointer (some ⟨b, o, none⟩)) (lo.map act.eval) (hi.map act.eval) (mx.map act.eval)).run C.P w = .ok (.slice (some (slicedP b o l m sz)) (h - l) (m - l)) w := by
      simp only [Instr.sliceAt, Sem.run_bind, run_underlying ht', Result.andThen_ok, Instr.sureAddr, Sem.run_pure, hb, run_sizeOf hs]
      unfold slicedP
      by_cases e : m = l
      · simp [e]
      · simp [e, Addr.add_lit]
    simp only [execOp, hf.eval hx, Sem.run_bind, key, Result.andThen_ok, Sem.run_pure]
end
end Go.Fw
