/-
  The program logic, eighteenth part: the library's entries on bytes (compare, index).
-/
import Derived.Test.YtkbbbflojebfgaaDoorFw17
import Derived.Lib.Bytealg
import Derived.Lib.BytesEntry
set_option linter.unusedSimpArgs false
set_option linter.unusedVariables false
namespace Go.Fw
open Go Go.RowKit
section
variable {C : Pr} {fm : FM} {M : View} {own : List OB} {K : Value → View → List OB → Prop} {d : Option Nat} {ty : TypeId} {pos : String} {af : Array Edge} {g : Option (Nat × Bool)}

theorem s_externS {f : FuncId} {fn : Func} {e : Array Value → Sem Value} {xs : List Operand} {vs : List Value} {ts : Array TypeId} {v : Value} (hx : evs fm xs = some vs) (hf : C.P.funcs[f]? = some fn) (hname : (fn.name == "runtime.NumGoroutine") = false)
    (hb : fn.body.isNone = true) (hn : Extern.findNext fn = none) (he : Extern.find fn = some e) (hr : ∀ w, St C.wE C.mu M own w → (e vs.toArray).run C.P w = .ok v w) (k : K v M own) :
    Stp C ⟨d, .call { callee := .value (.func f), args := xs.toArray, argTypes := ts }, ty, pos, af, g⟩ fm M own K := by
  intro a w hfr hs
  have hrun : (execOp a.eval ⟨d, .call { callee := .value (.func f), args := xs.toArray, argTypes := ts }, ty, pos, af, g⟩).run C.P w = .ok (.value v) w := by
    simp [execOp, resolve, Act.eval, Deferred.ofValue, invoke, evs_eq hfr hx, run_callFunc_extern hf hname hb hn he, hr w hs]
  unfold Okay
  rw [hrun]
  exact ⟨M, own, hs, k⟩

theorem getNKat {k : IntKind} {xs : List Int} {off i : Nat} (e : off = i) (h : i < xs.length) : GetN ((flat (eK k) xs)[·]?) off 1 [.int k (xs.getD i 0)] := by
  subst e
  have := getNK0 (k := k) h
  rwa [show 0 + off * 1 = off by omega] at this
theorem getNK_n {k : IntKind} {xs : List Int} {sp : List Value} {n : Nat} (hn : xs.length = n) : GetN ((flat (eK k) xs ++ sp)[·]?) 0 n (flat (eK k) xs) := by
  subst hn
  refine getN_list ?_ ?_
  · rw [List.drop_zero, List.take_append_of_le_length (by rw [flatK_length]; exact Nat.le_refl _), List.take_of_length_le (by rw [flatK_length]; exact Nat.le_refl _)]
  · rw [List.length_append, flatK_length]; omega
theorem SlA.atn {α : Type} {M : View} {enc : α → List Value} {sz : Nat} {a : Option Addr} {xs : List α} {b off n : Nat} (s : SlA M enc sz a xs b off) (hn : xs.length = n) : 0 < n → a = some ⟨b, off, none⟩ := fun h => s.at_ (by omega)
/-- An array of ours, read as a slice. -/
theorem SlA.part0 {w : World} {q : Nat} {k : IntKind} {xs : List Int} {T : TypeId} (hok : OB.ok ⟨some q, flat (eK k) xs, T⟩ w) : SlA (View.of w) (eK k) 1 (some ⟨q, 0, none⟩) xs q 0 :=
  SlA.own (A := none) (eK_length k) (sp := []) (by rw [List.append_nil]; exact hok) (fun h => by cases h)
theorem strOf_at {s : List Int} (hb : ∀ x ∈ s, 0 ≤ x ∧ x ≤ 255) {i : Nat} : (((strOf s).data.toList.getD i 0).toNat : Int) = s.getD i 0 := by
  have h := intsB_strOf hb
  conv => rhs; rw [← h]
  unfold intsB
  simp only [List.getD, List.getElem?_map]
  cases (strOf s).data.toList[i]? <;> rfl
theorem run_bytesOf {P : Program} {wE : World} {mu : List Nat} {w : World} (hs : St wE mu M own w) {a : Option Addr} {b o n c : Nat} {xs : List Int} (ha : 0 < n → a = some ⟨b, o, none⟩) (hn : xs.length = n) (hr : RdN M own b o n (flat (eK .u8) xs)) :
    (Extern.Bytes.bytesOf (.slice a n c)).run P w = .ok (strOf xs) w := by
  by_cases h0 : n = 0
  · subst h0
    have : xs = [] := List.eq_nil_of_length_eq_zero hn
    subst this
    cases a <;> simp [Extern.Bytes.bytesOf, Extern.Bytes.loadBytes] <;> rfl
  · rw [ha (by omega)]
    have hl := Lib.run_loadBytesX (P := P) w xs ⟨b, o, none⟩ .empty (fun j x hj => by
      have hjl : j < xs.length := (List.getElem?_eq_some_iff.1 hj).1
      refine rd_cells hs hr j _ ?_
      rw [flatK_get hjl]
      simp [List.getD, hj])
    rw [hn] at hl
    simp only [Extern.Bytes.bytesOf, hl]
    congr 1
    apply ByteArray.ext
    show (#[] : Array UInt8) ++ _ = _
    simp [strOf]
    rfl

theorem s_quoN {t t' : TypeId} {x y : Operand} {k1 : IntKind} {m n : Int} (hx : ev fm x = some (.int k1 m)) (hy : ev fm y = some (.int k1 n)) (h : 0 ≤ m ∧ 1 ≤ n ∧ m ≤ highK k1) : Pur C ⟨d, .binOp .quo t x y t', ty, pos, af, g⟩ fm M own (.int k1 (m / n)) :=
  s_arith hx hy (by
    have h1 : 0 ≤ m / n := Int.ediv_nonneg h.1 (by omega)
    have h2 : m / n ≤ m := Int.ediv_le_self _ h.1
    have h3 : lowK k1 ≤ 0 := by cases k1 <;> simp [lowK]
    rw [binOp_quo, Op.intDiv, if_neg (by omega), Int.tdiv_eq_ediv_of_nonneg h.1, wrap_fit (by omega) (by omega)])
theorem s_buildZ {t e n m sz : Nat} {k : IntKind} (hu : tdArray C.P t = some (n, e)) (hs : sizeB C.P e = some sz) (hz : zeroB C.P t = some (.agg (flat (eK k) (List.replicate m 0)).toArray)) : Pur C ⟨d, .build t #[], ty, pos, af, g⟩ fm M own (.agg (flat (eK k) (List.replicate m 0)).toArray) :=
  s_buildA (ps := []) rfl hu hs hz Fil.nil
theorem s_neqStr {t : TypeId} {t' : TypeId} {x y : Operand} {a b : ByteArray} (hx : ev fm x = some (.string a)) (hy : ev fm y = some (.string b)) :
    Pur C ⟨d, .binOp .neq t x y t', ty, pos, af, g⟩ fm M own (.bool (!(a.toList == b.toList))) := by
  intro act w hf _
  simp only [execOp, hf.eval hx, hf.eval hy, Sem.run_bind, eqGuard_at_string, binOp_string_neq, Sem.run_pure, Result.andThen_ok]
theorem run_eqB {P : Program} {t : TypeId} (ht : P.underlying t = some .bool) (a b : Bool) (w : World) : (Op.equalIn 10000 t (.bool a) (.bool b)).run P w = .ok (a == b) w := by
  have key : ∀ n' : Nat, (Op.equalIn (n' + 1) t (.bool a) (.bool b)).run P w = .ok (a == b) w := fun n' => by simp [Op.equalIn, run_underlying ht]
  exact key 9999
theorem s_eqlB {t : TypeId} {t' : TypeId} {x y : Operand} {a b : Bool} (hx : ev fm x = some (.bool a)) (hy : ev fm y = some (.bool b)) (ht : C.P.underlying t = some .bool) : Pur C ⟨d, .binOp .eql t x y t', ty, pos, af, g⟩ fm M own (.bool (a == b)) := by
  intro act w hf _
  have e : binOp .eql t (.bool a) (.bool b) = (do pure (.bool (← Op.equalIn 10000 t (.bool a) (.bool b)))) := rfl
  simp only [execOp, hf.eval hx, hf.eval hy, eqGuard_at_bool, Sem.run_bind, Sem.run_pure, Result.andThen_ok, e, run_eqB ht]
theorem s_neqB {t : TypeId} {t' : TypeId} {x y : Operand} {a b : Bool} (hx : ev fm x = some (.bool a)) (hy : ev fm y = some (.bool b)) (ht : C.P.underlying t = some .bool) : Pur C ⟨d, .binOp .neq t x y t', ty, pos, af, g⟩ fm M own (.bool (!(a == b))) := by
  intro act w hf _
  have e : binOp .neq t (.bool a) (.bool b) = (do pure (.bool (!(← Op.equalIn 10000 t (.bool a) (.bool b))))) := rfl
  simp only [execOp, hf.eval hx, hf.eval hy, eqGuard_at_bool, Sem.run_bind, Sem.run_pure, Result.andThen_ok, e, run_eqB ht]
theorem toList_beq {a b : ByteArray} : (a.toList == b.toList) = decide (intsB a = intsB b) := by
  rw [ByteArray.toList_eq, ByteArray.toList_eq]
  by_cases h : a = b
  · subst h; simp
  · have h2 : ¬ intsB a = intsB b := fun e => h (intsB_inj e)
    have h3 : ¬ a.data.toList = b.data.toList := fun e => h (by apply ByteArray.ext; exact Array.toList_inj.1 e)
    rw [decide_eq_false h2]
    simpa using h3

/-- How two rows of bytes are ordered. -/
def cmpI : List Int → List Int → Int
  | [], [] => 0
  | [], _ :: _ => -1
  | _ :: _, [] => 1
  | a :: as, b :: bs => if a < b then -1 else if b < a then 1 else cmpI as bs
theorem cmpI_eq : ∀ {xs ys : List Int}, (∀ x ∈ xs, 0 ≤ x ∧ x ≤ 255) → (∀ x ∈ ys, 0 ≤ x ∧ x ≤ 255) → Lib.compareBytes (bytesOf xs) (bytesOf ys) = cmpI xs ys
  | [], [], _, _ => rfl
  | [], _ :: _, _, _ => rfl
  | _ :: _, [], _, _ => rfl
  | a :: as, b :: bs, ha, hb => by
    have ih := cmpI_eq (fun x hx => ha x (List.mem_cons_of_mem _ hx)) (fun x hx => hb x (List.mem_cons_of_mem _ hx))
    have h1 := ha a (by simp)
    have h2 := hb b (by simp)
    have lt : ∀ {u v : Int}, (0 ≤ u ∧ u ≤ 255) → (0 ≤ v ∧ v ≤ 255) → (UInt8.ofNat u.toNat < UInt8.ofNat v.toNat ↔ u < v) := fun {u v} hu hv => by
      have e1 : u.toNat < 256 := by omega
      have e2 : v.toNat < 256 := by omega
      rw [UInt8.lt_iff_toNat_lt, UInt8.toNat_ofNat_of_lt' e1, UInt8.toNat_ofNat_of_lt' e2]
      omega
    show (if UInt8.ofNat a.toNat < UInt8.ofNat b.toNat then _ else if UInt8.ofNat b.toNat < UInt8.ofNat a.toNat then _ else Lib.compareBytes (bytesOf as) (bytesOf bs)) = _
    simp only [lt h1 h2, lt h2 h1, ih]
    rfl

theorem run_cmpSlices {P : Program} {wE : World} {mu : List Nat} {w : World} (hs : St wE mu M own w) {a a' : Option Addr} {b o n c b' o' n' c' : Nat} {xs ys : List Int} (ha : 0 < n → a = some ⟨b, o, none⟩) (hn : xs.length = n) (hr : RdN M own b o n (flat (eK .u8) xs)) (ha' : 0 < n' → a' = some ⟨b', o', none⟩) (hn' : ys.length = n') (hr' : RdN M own b' o' n' (flat (eK .u8) ys))
    (hx : ∀ x ∈ xs, 0 ≤ x ∧ x ≤ 255) (hy : ∀ x ∈ ys, 0 ≤ x ∧ x ≤ 255) :
    (Extern.BytealgCompare.compare #[.slice a n c, .slice a' n' c']).run P w = .ok (.int .i64 (cmpI xs ys)) w := by
  change Sem.run P (do pure (goInt (Extern.BytealgCompare.cmp (← Extern.Bytes.bytesOf (.slice a n c)) (← Extern.Bytes.bytesOf (.slice a' n' c'))))) w = _
  simp only [Sem.run_bind, run_bytesOf hs ha hn hr, run_bytesOf hs ha' hn' hr', Result.andThen_ok, Sem.run_pure]
  rw [Lib.cmp_eq]
  have := cmpI_eq hx hy
  rw [← this]
  rfl
theorem run_cmpStrings {P : Program} {w : World} {xs ys : List Int} (hx : ∀ x ∈ xs, 0 ≤ x ∧ x ≤ 255) (hy : ∀ x ∈ ys, 0 ≤ x ∧ x ≤ 255) :
    (Extern.BytealgCompare.compare #[.string (strOf xs), .string (strOf ys)]).run P w = .ok (.int .i64 (cmpI xs ys)) w := by
  rw [Lib.run_compareString, ← cmpI_eq hx hy]
  rfl

theorem cmpI_range (xs ys : List Int) : cmpI xs ys = -1 ∨ cmpI xs ys = 0 ∨ cmpI xs ys = 1 := by
  induction xs generalizing ys with
  | nil => cases ys <;> simp [cmpI]
  | cons x xs ih =>
    cases ys with
    | nil => simp [cmpI]
    | cons y ys =>
      simp only [cmpI]
      split
      · simp
      · split
        · simp
        · exact ih ys
theorem cmpI_swap (xs ys : List Int) : cmpI ys xs = - cmpI xs ys := by
  induction xs generalizing ys with
  | nil => cases ys <;> simp [cmpI]
  | cons x xs ih =>
    cases ys with
    | nil => simp [cmpI]
    | cons y ys =>
      simp only [cmpI]
      by_cases h1 : x < y
      · have h2 : ¬ y < x := by omega
        simp only [h1, h2, if_true, if_false]
        decide
      · by_cases h2 : y < x
        · simp only [h1, h2, if_true, if_false]
        · simp only [h1, h2, if_false]
          exact ih ys
theorem cmpI_zero {xs ys : List Int} : cmpI xs ys = 0 ↔ xs = ys := by
  induction xs generalizing ys with
  | nil => cases ys <;> simp [cmpI]
  | cons x xs ih =>
    cases ys with
    | nil => simp [cmpI]
    | cons y ys =>
      simp only [cmpI, List.cons.injEq]
      split
      · constructor
        · intro h; omega
        · intro h; omega
      · split
        · constructor
          · intro h; omega
          · intro h; omega
        · rw [ih]
          constructor
          · intro h; exact ⟨by omega, h⟩
          · intro h; exact h.2
theorem cmpI_trans {xs ys zs : List Int} (h1 : cmpI xs ys ≤ 0) (h2 : cmpI ys zs ≤ 0) : cmpI xs zs ≤ 0 := by
  induction xs generalizing ys zs with
  | nil => cases zs <;> simp [cmpI]
  | cons x xs ih =>
    cases ys with
    | nil => simp [cmpI] at h1
    | cons y ys =>
      cases zs with
      | nil => simp [cmpI] at h2
      | cons z zs =>
        simp only [cmpI] at h1 h2 ⊢
        by_cases a1 : x < y
        · by_cases b1 : y < z
          · rw [if_pos (by omega)]; decide
          · rw [if_neg b1] at h2
            by_cases b2 : z < y
            · rw [if_pos b2] at h2; omega
            · rw [if_pos (by omega)]; decide
        · rw [if_neg a1] at h1
          by_cases a2 : y < x
          · rw [if_pos a2] at h1; omega
          · rw [if_neg a2] at h1
            by_cases b1 : y < z
            · rw [if_pos (by omega)]; decide
            · rw [if_neg b1] at h2
              by_cases b2 : z < y
              · rw [if_pos b2] at h2; omega
              · rw [if_neg b2] at h2
                rw [if_neg (by omega), if_neg (by omega)]
                exact ih h1 h2
end
end Go.Fw
