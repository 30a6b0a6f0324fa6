/-
  Texts joined: Fw8.
-/
import Derived.Test.YtkkfgeekdaalmaaDoorYgc
import Derived.Laws.StructEq
set_option linter.unusedSimpArgs false
set_option linter.unusedVariables false
namespace Go.Fw
open Go Go.RowKit
section
variable {C : Pr} {fm : FM} {M : View} {own : List OB} {K : Value → View → List OB → Prop} {d : Option Nat} {ty : TypeId} {pos : String} {af : Array Edge} {g : Option (Nat × Bool)}
/-- All the cells of a slice that is read. -/
theorem SlA.all {α : Type} {enc : α → List Value} {sz : Nat} (he : ∀ x, (enc x).length = sz) {a : Option Addr} {xs : List α} {b off : Nat} (h : SlA M enc sz a xs b off) : GetN (M.cell b) off (xs.length * sz) (flat enc xs) := by
  have key : ∀ (ys : List α) (o : Nat), (∀ i (hi : i < ys.length), GetN (M.cell b) (o + i * sz) sz (enc ys[i])) → GetN (M.cell b) o (ys.length * sz) (flat enc ys) := by
    intro ys
    induction ys with
    | nil => intro o _; simp [flat]; exact .nil
    | cons y ys ih =>
      intro o hh
      have h0 := hh 0 (by simp)
      have h1 := ih (o + sz) fun i hi => by
        have := hh (i + 1) (by simpa using hi)
        rw [Nat.add_mul] at this
        rw [show o + sz + i * sz = o + (i * sz + 1 * sz) by omega]
        simpa using this
      simp only [Nat.zero_mul, Nat.add_zero, List.getElem_cons_zero] at h0
      have happ : ∀ (n : Nat) (o m : Nat) (vs us : List Value), GetN (M.cell b) o n vs → GetN (M.cell b) (o + n) m us → GetN (M.cell b) o (n + m) (vs ++ us) := by
        intro n
        induction n with
        | zero => intro o m vs us h1 h2; cases h1; simpa using h2
        | succ n ihn =>
          intro o m vs us h1 h2
          cases h1 with
          | cons e1 e2 =>
            rw [show n + 1 + m = (n + m) + 1 by omega]
            exact .cons e1 (ihn _ _ _ _ e2 (by rwa [show o + 1 + n = o + (n + 1) by omega]))
      have := happ sz o (ys.length * sz) _ _ h0 h1
      simp only [flat, List.flatMap_cons, List.length_cons] at this ⊢
      rw [Nat.add_mul, Nat.one_mul, Nat.add_comm]
      exact this
  exact key xs off h.cells
theorem s_append_r {x y : Operand} {p q : List OB} {ref : Option Nat} {A a2 : Option Addr} {n cap m c2 b2 off2 sz by_ : Nat} {cs xs sp news : List Value} {t e : TypeId} {z : Value}
    (hx : ev fm x = some (.slice (base ref A) n cap)) (hy : ev fm y = some (.slice a2 m c2)) (hp : Spl own ⟨ref, cs, e⟩ p q) (hcs : cs = xs ++ sp)
    (ht : tdSlice C.P t = some e) (hsz : sizeB C.P e = some sz) (hz : zeroB C.P e = some z) (hzs : z.cells.size = sz) (hby : bytesB C.P e = some by_)
    (so : SO ref n cap xs sp sz) (ha2 : 0 < m → a2 = some ⟨b2, off2, none⟩) (hnews : RdN M own b2 off2 (m * sz) news) (h1 : ones news = true) (hb : (n + m) * by_ ≤ 140737488355328) (h63 : n + m ≤ 9223372036854775807)
    (k : ∀ ref' sp' cap', SO ref' (n + m) cap' (xs ++ news) sp' sz → K (.slice (base ref' A) (n + m) cap') M (p ++ ⟨ref', xs ++ news ++ sp', e⟩ :: q)) :
    Stp C ⟨d, .call { callee := .builtin .append, args := #[x, y], argTypes := #[t, t] }, ty, pos, af, g⟩ fm M own K := by
  subst hcs
  intro a w hf hs
  have hnl : news.length = m * sz := (hs.cell hnews).length
  exact s_append hx hy hp ht hsz hz hzs hby so.hlen so.hcap so.hle so.hnone ha2 hnews h1 hb h63 (fun ref' sp' cap' h2 h3 h4 => k ref' sp' cap' ⟨by rw [List.length_append, so.hlen, hnl, Nat.add_mul], h2, h3, h4⟩) a w hf hs
theorem s_append_b {x y : Operand} {p q : List OB} {a2 : Option Addr} {b n cap m c2 b2 off2 sz by_ : Nat} {cs xs sp news : List Value} {t e : TypeId} {z : Value}
    (hx : ev fm x = some (.slice (some ⟨b, 0, none⟩) n cap)) (hy : ev fm y = some (.slice a2 m c2)) (hp : Spl own ⟨some b, cs, e⟩ p q) (hcs : cs = xs ++ sp)
    (ht : tdSlice C.P t = some e) (hsz : sizeB C.P e = some sz) (hz : zeroB C.P e = some z) (hzs : z.cells.size = sz) (hby : bytesB C.P e = some by_)
    (so : SO (some b) n cap xs sp sz) (ha2 : 0 < m → a2 = some ⟨b2, off2, none⟩) (hnews : RdN M own b2 off2 (m * sz) news) (h1 : ones news = true) (hb : (n + m) * by_ ≤ 140737488355328) (h63 : n + m ≤ 9223372036854775807)
    (k : ∀ ref' sp' cap', SO ref' (n + m) cap' (xs ++ news) sp' sz → K (.slice (base ref' none) (n + m) cap') M (p ++ ⟨ref', xs ++ news ++ sp', e⟩ :: q)) :
    Stp C ⟨d, .call { callee := .builtin .append, args := #[x, y], argTypes := #[t, t] }, ty, pos, af, g⟩ fm M own K :=
  s_append_r (ref := some b) (A := none) hx hy hp hcs ht hsz hz hzs hby so ha2 hnews h1 hb h63 k
theorem s_append_e {x y : Operand} {p q : List OB} {a2 : Option Addr} {b m c2 b2 off2 sz by_ : Nat} {news : List Value} {t e : TypeId} {z : Value}
    (hx : ev fm x = some (.slice (some ⟨b, 0, none⟩) 0 0)) (hy : ev fm y = some (.slice a2 m c2)) (hp : Spl own ⟨some b, [], e⟩ p q)
    (ht : tdSlice C.P t = some e) (hsz : sizeB C.P e = some sz) (hz : zeroB C.P e = some z) (hzs : z.cells.size = sz) (hby : bytesB C.P e = some by_)
    (ha2 : 0 < m → a2 = some ⟨b2, off2, none⟩) (hnews : RdN M own b2 off2 (m * sz) news) (h1 : ones news = true) (hb : m * by_ ≤ 140737488355328) (h63 : m ≤ 9223372036854775807)
    (k : ∀ ref' sp' cap', SO ref' m cap' news sp' sz → K (.slice (base ref' none) m cap') M (p ++ ⟨ref', news ++ sp', e⟩ :: q)) :
    Stp C ⟨d, .call { callee := .builtin .append, args := #[x, y], argTypes := #[t, t] }, ty, pos, af, g⟩ fm M own K :=
  s_append_b (n := 0) (cap := 0) (xs := []) (sp := []) hx hy hp rfl ht hsz hz hzs hby ⟨by simp, by simp, Nat.le_refl _, by simp⟩ ha2 hnews h1 (by simpa using hb) (by simpa using h63) (fun ref' sp' cap' h => by
    have := k ref' sp' cap' (by simpa using h)
    simpa using this)
/-- s == nil, of a slice. -/
theorem s_eqnil {t e : TypeId} {t' : TypeId} {x : Operand} {a : Option Addr} {n c n0 c0 : Nat} (hx : ev fm x = some (.slice a n c)) (ht : tdSlice C.P t = some e) :
    Cmp C ⟨d, .binOp .eql t x (.const (.slice none n0 c0)) t', ty, pos, af, g⟩ fm M own (a = none) := by
  have key : ∀ (n' : Nat) (w : World), (Op.equalIn (n' + 1) t (.slice a n c) (.slice none n0 c0)).run C.P w = .ok a.isNone w := by
    intro n' w
    cases a <;> simp [Op.equalIn, run_underlying (tdSlice_eq ht)]
  have run : ∀ (w : World), (binOp .eql t (.slice a n c) (.slice none n0 c0)).run C.P w = .ok (.bool a.isNone) w := by
    intro w
    have h := key 9999 w
    have e : binOp .eql t (.slice a n c) (.slice none n0 c0) = (do pure (.bool (← Op.equalIn 10000 t (.slice a n c) (.slice none n0 c0)))) := rfl
    rw [e]
    simp only [Sem.run_bind, h, Result.andThen_ok, Sem.run_pure]
  refine ⟨fun h act w hf _ => ?_, fun h act w hf _ => ?_⟩
  · have e1 := hf.eval hx
    have e2 : act.eval (.const (.slice none n0 c0)) = .slice none n0 c0 := rfl
    simp only [execOp, e1, e2, eqGuard_at_slice, Sem.run_bind, Sem.run_pure, Result.andThen_ok, run w]
    rw [h]; rfl
  · have e1 := hf.eval hx
    have e2 : act.eval (.const (.slice none n0 c0)) = .slice none n0 c0 := rfl
    simp only [execOp, e1, e2, eqGuard_at_slice, Sem.run_bind, Sem.run_pure, Result.andThen_ok, run w]
    have : a.isNone = false := by cases a <;> simp_all
    rw [this]
def intFields (P : Program) : List Field → Nat → Bool
  | [], _ => true
  | f :: fs, k => !(f.name == "_") && Nat.beq f.offset k && (match tdInt P f.type with | some _ => true | none => false) && intFields P fs (k + 1)
def intStruct (P : Program) (t : TypeId) (n : Nat) : Bool :=
  !P.eqGuardType P.depth t && !P.stoodInHeld t && (match P.underlying t with
    | some (.struct fs) => Nat.beq fs.size n && intFields P fs.toList 0
    | _ => false)
end
end Go.Fw
