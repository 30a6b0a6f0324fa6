/-
  Texts joined: Fw8.
-/
import Derived.Test.YtagmoecojmlogaaVc
import Derived.Laws.StructEq
set_option linter.unusedSimpArgs false
set_option linter.unusedVariables false
namespace Go.Fw
open Go Go.RowKit
section
variable {C : Pr} {fm : FM} {M : View} {own : List OB} {K : Value → View → List OB → Prop} {d : Option Nat} {ty : TypeId} {pos : String} {af : Array Edge} {g : Option (Nat × Bool)}
/-- All the cells of a slice that is read. -/
theorem SlA.all {α : Type} {enc : α → List Value} {sz : Nat} (he : ∀ x, (enc x).length = sz) {a : Option Addr} {xs : List α} {b off : Nat} (h : SlA M enc sz a xs b off) : GetN (M.cell b) off (xs.length * sz) (flat enc xs) := by
  have key : ∀ (ys : List α) (o : Nat), (∀ i (hi : i < ys.length), GetN (M.cell b) (o + i * sz) sz (enc ys[i])) → GetN (M.cell b) o (ys.length * sz) (flat enc ys) := by
    intro ys
    induction ys with
    | nil => intro o _; simp [flat]; exact .nil
    | cons y ys ih =>
      intro o hh
      have h0 := hh 0 (by simp)
      have h1 := ih (o + sz) fun i hi => by
        have := hh (i + 1) (by simpa using hi)
        rw [Nat.add_mul] at this
        rw [show o + sz + i * sz = o + (i * sz + 1 * sz) by omega]
        simpa using this
      simp only [Nat.zero_mul, Nat.add_zero, List.getElem_cons_zero] at h0
      have happ : ∀ (n : Nat) (o m : Nat) (vs us : List Value), GetN (M.cell b) o n vs → GetN (M.cell b) (o + n) m us → GetN (M.cell b) o (n + m) (vs ++ us) := by
        intro n
        induction n with
        | zero => intro o m vs us h1 h2; cases h1; simpa using h2
        | succ n ihn =>
          intro o m vs us h1 h2
          cases h1 with
          | cons e1 e2 =>
            rw [show n + 1 + m = (n + m) + 1 by omega]
            exact .cons e1 (ihn _ _ _ _ e2 (by rwa [show o + 1 + n = o + (n + 1) by omega]))
      have := happ sz o (ys.length * sz) _ _ h0 h1
      simp only [flat, List.flatMap_cons, List.length_cons] at this ⊢
      rw [Nat.add_mul, Nat.one_mul, Nat.add_comm]
      exact this
  exact key xs off h.cells
theorem s_append_r {x y : Operand} {p q : List OB} {ref : Option Nat} {A a2 : Option Addr} {n cap m c2 b2 off2 sz by_ : Nat} {cs xs sp news : List Value} {t e : TypeId} {z : Value}
    (hx : ev fm x = some (.slice (base ref A) n cap)) (hy : ev fm y = some (.slice a2 m c2)) (hp : Spl own ⟨ref, cs, e⟩ p q) (hcs : cs = xs ++ sp)
    (ht : tdSlice C.P t = some e) (hsz : sizeB C.P e = some sz) (hz : zeroB C.P e = some z) (hzs : z.cells.size = sz) (hby : bytesB C.P e = some by_)
    (so : SO ref n cap xs sp sz) (ha2 : 0 < m → a2 = some ⟨b2, off2, none⟩) (hnews : RdN M own b2 off2 (m * sz) news) (h1 : ones news = true) (hb : (n + m) * by_ ≤ 140737488355328) (h63 : n + m ≤ 9223372036854775807)
    (k : ∀ ref' sp' cap', SO ref' (n + m) cap' (xs ++ news) sp' sz → K (.slice (base ref' A) (n + m) cap') M (p ++ ⟨ref', xs ++ news ++ sp', e⟩ :: q)) :
    Stp C ⟨d, .call { callee := .builtin .append, args := #[x, y], argTypes := #[t, t] }, ty, pos, af, g⟩ fm M own K := by
  subst hcs
  intro a w hf hs
  have hnl : news.length = m * sz := (hs.cell hnews).length
  exact s_append hx hy hp ht hsz hz hzs hby so.hlen so.hcap so.hle so.hnone ha2 hnews h1 hb h63 (fun ref' sp' cap' h2 h3 h4 => k ref' sp' cap' ⟨by rw [List.length_append, so.hlen, hnl, Nat.add_mul], h2, h3, h4⟩) a w hf hs
theorem s_append_b {x y : Operand} {p q : List OB} {a2 : Option Addr} {b n cap m c2 b2 off2 sz by_ : Nat} {cs xs sp news : List Value} {t e : TypeId} {z : Value}
    (hx : ev fm x = some (.slice (some ⟨b, 0, none⟩) n cap)) (hy : ev fm y = some (.slice a2 m c2)) (hp : Spl own ⟨some b, cs, e⟩ p q) (hcs : cs = xs ++ sp)
    (ht : tdSlice C.P t = some e) (hsz : sizeB C.P e = some sz) (hz : zeroB C.P e = some z) (hzs : z.cells.size = sz) (hby : bytesB C.P e = some by_)
    (so : SO (some b) n cap xs sp sz) (ha2 : 0 < m → a2 = some ⟨b2, off2, none⟩) (hnews : RdN M own b2 off2 (m * sz) news) (h1 : ones news = true) (hb : (n + m) * by_ ≤ 140737488355328) (h63 : n + m ≤ 9223372036854775807)
    (k : ∀ ref' sp' cap', SO ref' (n + m) cap' (xs ++ news) sp' sz → K (.slice (base ref' none) (n + m) cap') M (p ++ ⟨ref', xs ++ news ++ sp', e⟩ :: q)) :
    Stp C ⟨d, .call { callee := .builtin .append, args := #[x, y], argTypes := #[t, t] }, ty, pos, af, g⟩ fm M own K :=
  s_append_r (ref := some b) (A := none) hx hy hp hcs ht hsz hz hzs hby so ha2 hnews h1 hb h63 k
theorem s_append_e {x y : Operand} {p q : List OB} {a2 : Option Addr} {b m c2 b2 off2 sz by_ : Nat} {news : List Value} {t e : TypeId} {z : Value}
    (hx : ev fm x = some (.slice (some ⟨b, 0, none⟩) 0 0)) (hy : ev fm y = some (.slice a2 m c2)) (hp : Spl own ⟨some b, [], e⟩ p q)
    (ht : tdSlice C.P t = some e) (hsz : sizeB C.P e = some sz) (hz : zeroB C.P e = some z) (hzs : z.cells.size = sz) (hby : bytesB C.P e = some by_)
    (ha2 : 0 < m → a2 = some ⟨b2, off2, none⟩) (hnews : RdN M own b2 off2 (m * sz) news) (h1 : ones news = true) (hb : m * by_ ≤ 140737488355328) (h63 : m ≤ 9223372036854775807)
    (k : ∀ ref' sp' cap', SO ref' m cap' news sp' sz → K (.slice (base ref' none) m cap') M (p ++ ⟨ref', news ++ sp', e⟩ :: q)) :
    Stp C ⟨d, .call { callee := .builtin .append, args := #[x, y], argTypes := #[t, t] }, ty, pos, af, g⟩ fm M own K :=
  s_append_b (n := 0) (cap := 0) (xs := []) (sp := []) hx hy hp rfl ht hsz hz hzs hby ⟨by simp, by simp, Nat.le_refl _, by simp⟩ ha2 hnews h1 (by simpa using hb) (by simpa using h63) (fun ref' sp' cap' h => by
    have := k ref' sp' cap' (by simpa using h)
    simpa using this)
/-- s == nil, of a slice. -/
theorem s_eqnil {t e : TypeId} {t' : TypeId} {x : Operand} {a : Option Addr} {n c n0 c0 : Nat} (hx : ev fm x = some (.slice a n c)) (ht : tdSlice C.P t = some e) :
    Cmp C ⟨d, .binOp .eql t x (.const (.slice none n0 c0)) t', ty, pos, af, g⟩ fm M own (a = none) := by
  have key : ∀ (n' : Nat) (w : World), (Op.equalIn (n' + 1) t (.slice a n c) (.slice none n0 c0)).run C.P w = .ok a.isNone w := by
    intro n' w
    cases a <;> simp [Op.equalIn, run_underlying (tdSlice_eq ht)]
  have run : ∀ (w : World), (binOp .eql t (.slice a n c) (.slice none n0 c0)).run C.P w = .ok (.bool a.isNone) w := by
    intro w
    have h := key 9999 w
    have e : binOp .eql t (.slice a n c) (.slice none n0 c0) = (do pure (.bool (← Op.equalIn 10000 t (.slice a n c) (.slice none n0 c0)))) := rfl
    rw [e]
    simp only [Sem.run_bind, h, Result.andThen_ok, Sem.run_pure]
  refine ⟨fun h act w hf _ => ?_, fun h act w hf _ => ?_⟩
  · have e1 := hf.eval hx
    have e2 : act.eval (.const (.slice none n0 c0)) = .slice none n0 c0 := rfl
    simp only [execOp, e1, e2, eqGuard_at_slice, Sem.run_bind, Sem.run_pure, Result.andThen_ok, run w]
    rw [h]; rfl
  · have e1 := hf.eval hx
    have e2 : act.eval (.const (.slice none n0 c0)) = .slice none n0 c0 := rfl
    simp only [execOp, e1, e2, eqGuard_at_slice, Sem.run_bind, Sem.run_pure, Result.andThen_ok, run w]
    have : a.isNone = false := by cases a <;> simp_all
    rw [this]
def intFields (P : Program) : List Field → Nat → Bool
  | [], _ => true
  | f :: fs, k => !(f.name == "_") && Nat.beq f.offset k && (match tdInt P f.type with | some _ => true | none => false) && intFields P fs (k + 1)
def intStruct (P : Program) (t : TypeId) (n : Nat) : Bool :=
  !P.eqGuardType P.depth t && !P.stoodInHeld t && (match P.underlying t with
    | some (.struct fs) => Nat.beq fs.size n && intFields P fs.toList 0
    | _ => false)
theorem run_eqFields {P : Program} (dd : Nat) {xs ys : List Int} (hl : xs.length = ys.length) (w : World) : ∀ (fs : List Field) (k : Nat), intFields P fs k = true → k + fs.length = xs.length →
    (Op.eqFields (dd + 1) (ints xs).toArray (ints ys).toArray fs).run P w = .ok (decide (xs.drop k = ys.drop k)) w
  | [], k, _, hk => by
    have e1 : xs.drop k = [] := List.drop_eq_nil_of_le (by simp at hk; omega)
    have e2 : ys.drop k = [] := List.drop_eq_nil_of_le (by simp at hk; omega)
    simp [Op.eqFields, e1, e2]
  | f :: fs, k, h, hk => by
    simp only [List.length_cons] at hk
    unfold intFields at h
    simp only [Bool.and_eq_true, Bool.not_eq_true'] at h
    obtain ⟨⟨⟨h1, h2⟩, h3⟩, h4⟩ := h
    have hoff := Nat.eq_of_beq_eq_true h2
    obtain ⟨kk, hkk⟩ : ∃ kk, tdInt P f.type = some kk := by cases e : tdInt P f.type with
      | none => rw [e] at h3; cases h3
      | some kk => exact ⟨kk, rfl⟩
    have hu := tdInt_eq hkk
    have ih := run_eqFields dd hl w fs (k + 1) h4 (by omega)
    have hag : ∀ w, (isAgg f.type).run P w = .ok false w := fun w => run_isAgg (by unfold aggB; rw [hu]) w
    have hp : ∀ zs : List Int, (hz : k < zs.length) → (part f.type (ints zs).toArray f.offset).run P w = .ok (.int .i64 zs[k]) w := by
      intro zs hz
      unfold part
      simp only [Sem.run_bind, hag, Result.andThen_ok, Bool.false_eq_true, if_false, hoff]
      simp [ints, hz]
    have hne : f.name ≠ "_" := by simpa using h1
    have hkx : k < xs.length := by omega
    have hky : k < ys.length := by omega
    unfold Op.eqFields
    rw [if_pos hne]
    simp only [Sem.run_bind, hp xs hkx, hp ys hky, Result.andThen_ok, run_equalIn_int w dd f.type .i64 kk _ _ hu]
    have hiff : (xs.drop k = ys.drop k) ↔ (xs[k] = ys[k] ∧ xs.drop (k + 1) = ys.drop (k + 1)) := by
      rw [List.drop_eq_getElem_cons hkx, List.drop_eq_getElem_cons hky, List.cons.injEq]
    by_cases he : xs[k] = ys[k]
    · have hb : (xs[k] == ys[k]) = true := by simpa using he
      rw [hb]
      simp only [Bool.not_true, Bool.false_eq_true, if_false, ih, hiff, he, true_and]
    · have hb : (xs[k] == ys[k]) = false := by simpa using he
      rw [hb]
      simp only [Bool.not_false, if_true, Sem.run_pure, hiff, he, false_and, decide_false]
theorem run_eqStruct {P : Program} {t n : Nat} (h : intStruct P t n = true) {xs ys : List Int} (h1 : xs.length = n) (h2 : ys.length = n) (w : World) : (Op.equalIn 10000 t (.agg (ints xs).toArray) (.agg (ints ys).toArray)).run P w = .ok (decide (xs = ys)) w := by
  unfold intStruct at h
  simp only [Bool.and_eq_true, Bool.not_eq_true'] at h
  obtain ⟨⟨_, h4⟩, h5⟩ := h
  split at h5
  · rename_i fs hu
    simp only [Bool.and_eq_true] at h5
    have hn := Nat.eq_of_beq_eq_true h5.1
    have hf : P.fieldsOf t = fs := by simp [Program.fieldsOf, hu]
    rw [run_equalIn_struct w 9999 t _ _ (by rw [hf]; exact hu) h4, hf]
    have := run_eqFields (P := P) 9998 (xs := xs) (ys := ys) (by omega) w fs.toList 0 h5.2 (by simp; omega)
    simpa using this
  · cases h5
theorem s_neqS {t n : Nat} {t' : TypeId} {x y : Operand} {vs us : List Value} {xs ys : List Int} (hx : ev fm x = some (.agg vs.toArray)) (hy : ev fm y = some (.agg us.toArray)) (h : intStruct C.P t n = true) (ex : vs = ints xs) (ey : us = ints ys) (h1 : xs.length = n) (h2 : ys.length = n) :
    Cmp C ⟨d, .binOp .neq t x y t', ty, pos, af, g⟩ fm M own (¬ xs = ys) := by
  subst ex ey
  have hg : C.P.eqGuardType C.P.depth t = false := by unfold intStruct at h; simp only [Bool.and_eq_true, Bool.not_eq_true'] at h; exact h.1.1
  have base : ∀ act w, FrOk C.n act fm → (execOp act.eval ⟨d, .binOp .neq t x y t', ty, pos, af, g⟩).run C.P w = .ok (.value (.bool (!decide (xs = ys)))) w := fun act w hf => by
    simp only [execOp, hf.eval hx, hf.eval hy, Sem.run_bind, run_eqGuard_agg w _ _ _ _ _ _ hg, Result.andThen_ok, run_neq_struct w, run_eqStruct h h1 h2 w]
    rfl
  exact ⟨fun hp act w hf _ => by rw [base act w hf, decide_eq_false hp]; rfl, fun hp act w hf _ => by rw [base act w hf, decide_eq_true (Decidable.not_not.1 hp)]; rfl⟩
end
end Go.Fw
