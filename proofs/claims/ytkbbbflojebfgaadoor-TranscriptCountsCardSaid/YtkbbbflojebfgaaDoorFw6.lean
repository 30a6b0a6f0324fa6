/-
  The program logic, sixth part: loops over the slots that live; rows of elements of several cells.
-/
import Derived.Test.YtkbbbflojebfgaaDoorFw5
set_option linter.unusedSimpArgs false
set_option linter.unusedVariables false
namespace Go.Fw
open Go Go.RowKit

inductive Keep (fm : FM) : List Nat → FM → Prop
  | nil : Keep fm [] []
  | cons {k : Nat} {v : Value} {ks : List Nat} {r : FM} : fm.get k = some v → Keep fm ks r → Keep fm (k :: ks) ((k, v) :: r)

theorem FM.sub_append {a b fm : FM} (h1 : FM.sub a fm) (h2 : FM.sub b fm) : FM.sub (a ++ b) fm := by
  induction a with
  | nil => exact h2
  | cons p a ih => exact ⟨h1.1, ih h1.2⟩
theorem Keep.sub {fm : FM} {ks : List Nat} {r : FM} (h : Keep fm ks r) : FM.sub r fm := by
  induction h with
  | nil => trivial
  | cons h1 _ ih => exact ⟨h1, ih⟩

section
variable {C : Pr} {fm : FM} {M : View} {own : List OB} {N : SP} {X : Nat → SP} {R : SP}

/-- The round's end. -/
structure Rd {σ : Type} (G : σ → FM) (res : FM) (V : σ → View) (O : σ → List OB) (I : σ → Prop) (μ : σ → Nat) (m : Nat) (fm : FM) (M : View) (own : List OB) (s : σ) : Prop where
  fr : FM.sub (G s ++ res) fm
  vw : View.le (V s) M
  ow : Pick own (O s)
  inv : I s
  lt : μ s < m

theorem cw_loopK {σ : Type} (keys : List Nat) {res : FM} (hk : Keep fm keys res) (G : σ → FM) (V : σ → View) (O : σ → List OB) (I : σ → Prop) (μ : σ → Nat) (s0 : σ) {c : Code}
    (h1 : FM.sub (G s0) fm) (h2 : View.le (V s0) M) (h3 : Pick own (O s0)) (h4 : I s0)
    (round : ∀ s, I s → CW C c (G s ++ res) (V s) (O s) (fun fm M own => ∃ s', Rd G res V O I μ (μ s) fm M own s') X R) : CW C (.loop c) fm M own N X R :=
  cw_loop (fun s => G s ++ res) V O I μ s0 ⟨FM.sub_append h1 hk.sub, h2, h3, h4⟩ fun s hs => cw_mono (round s hs) (fun _ _ _ ⟨s', h⟩ => ⟨s', ⟨h.fr, h.vw, h.ow, h.inv⟩, h.lt⟩) (fun _ _ _ _ h => h) (fun _ _ _ h => h)

theorem cw_own {c : Code} {own' : List OB} (he : own = own') (h : CW C c fm M own' N X R) : CW C c fm M own N X R := he ▸ h
theorem ol_own {l0 : Array Oper} {l : List Oper} {own' : List OB} {K : SP} (he : own = own') (h : OL C l0 l fm M own' K) : OL C l0 l fm M own K := he ▸ h
end

/-! ### Rows of elements -/
section
variable {α : Type}

def flat (enc : α → List Value) (xs : List α) : List Value := xs.flatMap enc
theorem flat_nil (enc : α → List Value) : flat enc [] = [] := rfl
theorem flat_append (enc : α → List Value) (xs ys : List α) : flat enc (xs ++ ys) = flat enc xs ++ flat enc ys := by simp [flat]
theorem flat_one (enc : α → List Value) (x : α) : flat enc [x] = enc x := by simp [flat]
theorem flat_length {enc : α → List Value} {sz : Nat} (he : ∀ x, (enc x).length = sz) (xs : List α) : (flat enc xs).length = xs.length * sz := by
  induction xs with
  | nil => simp [flat]
  | cons x xs ih => simp only [flat, List.flatMap_cons, List.length_append, he, List.length_cons] at ih ⊢; rw [ih, Nat.add_mul]; omega
theorem ones_flat {enc : α → List Value} (he : ∀ x, ones (enc x) = true) (xs : List α) : ones (flat enc xs) = true := by
  have key : ∀ l : List Value, (∀ v ∈ l, v.oneCell' = true) → ones l = true := by
    intro l
    induction l with
    | nil => intro _; rfl
    | cons v l ih => intro h; unfold ones; rw [h v (by simp)]; exact ih fun u hu => h u (by simp [hu])
  refine key _ fun v hv => ?_
  obtain ⟨x, _, hx⟩ := List.mem_flatMap.1 hv
  exact ones_spec (he x) v hx

theorem getN_list {l : List Value} {off n : Nat} {vs : List Value} (h : (l.drop off).take n = vs) (hn : off + n ≤ l.length) : GetN (l[·]?) off n vs := by
  subst h
  have hl : ((l.drop off).take n).length = n := by simp; omega
  have := GetN.of_at (f := (l[·]?)) (vs := (l.drop off).take n) (off := off) fun j hj => by
    rw [hl] at hj
    simp [List.getElem_take, List.getElem?_eq_getElem (show off + j < l.length by omega)]
  rwa [hl] at this

theorem flat_at {enc : α → List Value} {sz : Nat} (he : ∀ x, (enc x).length = sz) : ∀ (xs : List α) (sp : List Value) (i : Nat) (h : i < xs.length), ((flat enc xs ++ sp).drop (i * sz)).take sz = enc xs[i]
  | x :: xs, sp, 0, _ => by
    simp only [Nat.zero_mul, List.drop_zero, flat, List.flatMap_cons, List.append_assoc, List.getElem_cons_zero]
    rw [← he x, List.take_left]
  | x :: xs, sp, i + 1, h => by
    have ih := flat_at he xs sp i (by simpa using h)
    simp only [flat, List.flatMap_cons, List.append_assoc, List.getElem_cons_succ] at ih ⊢
    rw [← ih, Nat.add_mul, Nat.one_mul, Nat.add_comm, ← List.drop_drop]
    congr 2
    have := he x
    rw [← this, List.drop_left]

theorem getN_flat {enc : α → List Value} {sz : Nat} (he : ∀ x, (enc x).length = sz) {xs : List α} {sp : List Value} {i : Nat} (h : i < xs.length) : GetN ((flat enc xs ++ sp)[·]?) (0 + i * sz) sz (enc xs[i]) := by
  refine getN_list (by rw [Nat.zero_add]; exact flat_at he xs sp i h) ?_
  have := flat_length he xs
  have h2 : (i + 1) * sz ≤ xs.length * sz := Nat.mul_le_mul_right _ h
  rw [Nat.add_mul] at h2
  simp; omega

/-- What we own, read as a slice. -/
theorem SlA.own {enc : α → List Value} {sz : Nat} (he : ∀ x, (enc x).length = sz) {w : World} {r : Option Nat} {A : Option Addr} {xs : List α} {sp : List Value} {T : TypeId} (hok : OB.ok ⟨r, flat enc xs ++ sp, T⟩ w) (hn : r = none → xs = []) :
    SlA (View.of w) enc sz (base r A) xs (r.getD 0) 0 := by
  cases r with
  | none =>
    have := hn rfl
    subst this
    exact ⟨fun h => by simp at h, fun i h => by simp at h⟩
  | some b =>
    refine ⟨fun _ => rfl, fun i h => ?_⟩
    obtain ⟨fz, _, hok⟩ := OB.ok_some hok
    refine (getN_flat he (sp := sp) h).mono fun j v hv => ?_
    simp only [View.cell, View.of, Option.getD_some, hok]
    simpa using hv

def enc1 (v : Int) : List Value := [.int .i64 v]
theorem flat_enc1 (xs : List Int) : flat enc1 xs = ints xs := by
  induction xs with
  | nil => rfl
  | cons x xs ih => simp only [flat, List.flatMap_cons, enc1, ints, List.map_cons] at ih ⊢; rw [ih]; rfl

theorem SlA.ownInts {w : World} {r : Option Nat} {A : Option Addr} {xs : List Int} {sp : List Value} {T : TypeId} (hok : OB.ok ⟨r, ints xs ++ sp, T⟩ w) (hn : r = none → xs = []) :
    SlA (View.of w) enc1 1 (base r A) xs (r.getD 0) 0 := by
  have h : OB.ok ⟨r, flat enc1 xs ++ sp, T⟩ w := by rw [flat_enc1]; exact hok
  exact SlA.own (enc := enc1) (fun _ => rfl) h hn

/-- A row of ours: n elements of sz cells, so many places. -/
structure SO (r : Option Nat) (n cap : Nat) (xs sp : List Value) (sz : Nat) : Prop where
  hlen : xs.length = n * sz
  hcap : xs.length + sp.length = cap * sz
  hle : n ≤ cap
  hnone : r = none → cap = 0

theorem SO.empty {r : Option Nat} {n cap sz : Nat} {xs sp : List Value} (h : SO r n cap xs sp sz) (hr : r = none) : n = 0 := by have := h.hnone hr; have := h.hle; omega
theorem SO.nil (sz : Nat) : SO none 0 0 [] [] sz := ⟨by simp, by simp, Nat.le_refl _, fun _ => rfl⟩

end
end Go.Fw
